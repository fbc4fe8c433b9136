/- A part of the proof that follows: A rate that is not written in its shortest form is read as it is. -/
import Derived.Test.YtocbjhoaamkonaaMRtcpRates3
/- Lifted by lift.py: rtcp_parse as a plain function. -/
namespace Go.Ev
open Go.Proofs
set_option linter.unusedVariables false
set_option linter.unusedSimpArgs false
set_option maxRecDepth 100000
def p_rtcp_parse_l0 {β : Type} (k : Nat) (kE0 : (List Int) → T_api_Report → T_api_Report → T_rtcp_reader → Option β) (x2 : (List Int)) (yg4 : T_api_Report) (yg13 : T_api_Report) (yg60 : T_rtcp_reader) : Option β := match k with
| 0 => none
| k + 1 =>
(p_rtcp_reader_left (⟨yg60.b, yg60.f_at, yg60.bad⟩ : T_rtcp_reader)).bind fun r109 =>
bif r109 then (
(p_rtcp_reader_tuple k (⟨yg60.b, yg60.f_at, yg60.bad⟩ : T_rtcp_reader)).bind fun r114 =>
(ap 24 yg13.Tuples ([r114.1])).bind fun a125 =>
p_rtcp_parse_l0 k kE0 x2 ((⟨yg4.Kind, yg4.From, yg4.About, yg4.Tuples, yg4.Abouts, yg4.Numbers, yg4.Rate, yg4.f_Type, yg4.Count, yg4.Body⟩ : T_api_Report)) ((⟨yg13.Kind, yg13.From, yg13.About, a125, yg13.Abouts, yg13.Numbers, yg13.Rate, yg13.f_Type, yg13.Count, yg13.Body⟩ : T_api_Report)) ((⟨r114.2.b, r114.2.f_at, r114.2.bad⟩ : T_rtcp_reader)))
else (
kE0 x2 ((⟨yg4.Kind, yg4.From, yg4.About, yg4.Tuples, yg4.Abouts, yg4.Numbers, yg4.Rate, yg4.f_Type, yg4.Count, yg4.Body⟩ : T_api_Report)) ((⟨yg13.Kind, yg13.From, yg13.About, yg13.Tuples, yg13.Abouts, yg13.Numbers, yg13.Rate, yg13.f_Type, yg13.Count, yg13.Body⟩ : T_api_Report)) ((⟨yg60.b, yg60.f_at, yg60.bad⟩ : T_rtcp_reader)))
def p_rtcp_parse_l1 {β : Type} (k : Nat) (kE0 : (List Int) → T_api_Report → T_api_Report → T_rtcp_reader → Option β) (x2 : (List Int)) (yg4 : T_api_Report) (yg13 : T_api_Report) (yg60 : T_rtcp_reader) : Option β := match k with
| 0 => none
| k + 1 =>
(p_rtcp_reader_left (⟨yg60.b, yg60.f_at, yg60.bad⟩ : T_rtcp_reader)).bind fun r272 =>
bif r272 then (
(p_rtcp_reader_num k (⟨yg60.b, yg60.f_at, yg60.bad⟩ : T_rtcp_reader) 4).bind fun r277 =>
(ap 4 yg13.Abouts ([(IntKind.wrap .u32 r277.1)])).bind fun a286 =>
(p_rtcp_reader_num k (⟨r277.2.b, r277.2.f_at, r277.2.bad⟩ : T_rtcp_reader) 1).bind fun r300 =>
(ap 8 yg13.Numbers ([(IntKind.wrap .i64 r300.1)])).bind fun a309 =>
(p_rtcp_reader_nought k (⟨r300.2.b, r300.2.f_at, r300.2.bad⟩ : T_rtcp_reader) 3).bind fun r323 =>
p_rtcp_parse_l1 k kE0 x2 ((⟨yg4.Kind, yg4.From, yg4.About, yg4.Tuples, yg4.Abouts, yg4.Numbers, yg4.Rate, yg4.f_Type, yg4.Count, yg4.Body⟩ : T_api_Report)) ((⟨yg13.Kind, yg13.From, yg13.About, yg13.Tuples, a286, a309, yg13.Rate, yg13.f_Type, yg13.Count, yg13.Body⟩ : T_api_Report)) ((⟨r323.b, r323.f_at, r323.bad⟩ : T_rtcp_reader)))
else (
kE0 x2 ((⟨yg4.Kind, yg4.From, yg4.About, yg4.Tuples, yg4.Abouts, yg4.Numbers, yg4.Rate, yg4.f_Type, yg4.Count, yg4.Body⟩ : T_api_Report)) ((⟨yg13.Kind, yg13.From, yg13.About, yg13.Tuples, yg13.Abouts, yg13.Numbers, yg13.Rate, yg13.f_Type, yg13.Count, yg13.Body⟩ : T_api_Report)) ((⟨yg60.b, yg60.f_at, yg60.bad⟩ : T_rtcp_reader)))
def p_rtcp_parse (k : Nat) (x0 : Int) (x1 : Int) (x2 : (List Int)) : Option (T_api_Report × Bool) :=
(p_rtcp_kind x0 x1).bind fun r5 =>
bif r5 == 6 then (
(p_clone 1 x2).bind fun r17 =>
some (((⟨r5, 0, 0, (([] : List T_api_Tuple)), (([] : List Int)), (([] : List Int)), 0, x0, x1, r17⟩ : T_api_Report)), true))
else (
(p_rtcp_reader_num k (⟨x2, 0, false⟩ : T_rtcp_reader) 4).bind fun r61 =>
bif r5 != 3 then (
(p_rtcp_reader_nought k (⟨r61.2.b, r61.2.f_at, r61.2.bad⟩ : T_rtcp_reader) 4).bind fun r72 =>
bif r5 == 1 then (
bif r5 == 1 then (
p_rtcp_parse_l0 k (fun r168_2 yg93 yg104 yg108 =>
(bif yg108.bad then (some true) else (some (decide (((yg104.Tuples.length : Int)) > 6)))).bind fun b198 =>
bif !b198 then (
some (((⟨yg104.Kind, yg104.From, yg104.About, yg104.Tuples, yg104.Abouts, yg104.Numbers, yg104.Rate, yg104.f_Type, yg104.Count, yg104.Body⟩ : T_api_Report)), (yg108.f_at == ((r168_2.length : Int)))))
else (
some (((⟨yg104.Kind, yg104.From, yg104.About, yg104.Tuples, yg104.Abouts, yg104.Numbers, yg104.Rate, yg104.f_Type, yg104.Count, yg104.Body⟩ : T_api_Report)), false))) x2 ((⟨0, 0, 0, (([] : List T_api_Tuple)), (([] : List Int)), (([] : List Int)), 0, 0, 0, (([] : List Int))⟩ : T_api_Report)) ((⟨r5, (IntKind.wrap .u32 r61.1), 0, (([] : List T_api_Tuple)), (([] : List Int)), (([] : List Int)), 0, 0, 0, (([] : List Int))⟩ : T_api_Report)) ((⟨r72.b, r72.f_at, r72.bad⟩ : T_rtcp_reader)))
else (
bif r5 == 3 then (
(p_rtcp_reader_num k (⟨r72.b, r72.f_at, r72.bad⟩ : T_rtcp_reader) 4).bind fun r223 =>
bif !r223.2.bad then (
some (((⟨r5, (IntKind.wrap .u32 r61.1), (IntKind.wrap .u32 r223.1), (([] : List T_api_Tuple)), (([] : List Int)), (([] : List Int)), 0, 0, 0, (([] : List Int))⟩ : T_api_Report)), (r223.2.f_at == ((x2.length : Int)))))
else (
some (((⟨r5, (IntKind.wrap .u32 r61.1), (IntKind.wrap .u32 r223.1), (([] : List T_api_Tuple)), (([] : List Int)), (([] : List Int)), 0, 0, 0, (([] : List Int))⟩ : T_api_Report)), false)))
else (
bif r5 == 4 then (
p_rtcp_parse_l1 k (fun r361_2 yg255 yg267 yg271 =>
(bif yg271.bad then (some true) else (some (decide (((yg267.Abouts.length : Int)) < 1)))).bind fun b392 =>
(bif b392 then (some true) else (some (decide (((yg267.Abouts.length : Int)) > 16)))).bind fun b396 =>
bif !b396 then (
some (((⟨yg267.Kind, yg267.From, yg267.About, yg267.Tuples, yg267.Abouts, yg267.Numbers, yg267.Rate, yg267.f_Type, yg267.Count, yg267.Body⟩ : T_api_Report)), (yg271.f_at == ((r361_2.length : Int)))))
else (
some (((⟨yg267.Kind, yg267.From, yg267.About, yg267.Tuples, yg267.Abouts, yg267.Numbers, yg267.Rate, yg267.f_Type, yg267.Count, yg267.Body⟩ : T_api_Report)), false))) x2 ((⟨0, 0, 0, (([] : List T_api_Tuple)), (([] : List Int)), (([] : List Int)), 0, 0, 0, (([] : List Int))⟩ : T_api_Report)) ((⟨r5, (IntKind.wrap .u32 r61.1), 0, (([] : List T_api_Tuple)), (([] : List Int)), (([] : List Int)), 0, 0, 0, (([] : List Int))⟩ : T_api_Report)) ((⟨r72.b, r72.f_at, r72.bad⟩ : T_rtcp_reader)))
else (
bif r5 == 5 then (
(p_rtcp_reader_remb k (⟨r72.b, r72.f_at, r72.bad⟩ : T_rtcp_reader) (⟨r5, (IntKind.wrap .u32 r61.1), 0, (([] : List T_api_Tuple)), (([] : List Int)), (([] : List Int)), 0, 0, 0, (([] : List Int))⟩ : T_api_Report)).bind fun r424 =>
bif !r424.1.bad then (
some (((⟨r424.2.Kind, r424.2.From, r424.2.About, r424.2.Tuples, r424.2.Abouts, r424.2.Numbers, r424.2.Rate, r424.2.f_Type, r424.2.Count, r424.2.Body⟩ : T_api_Report)), (r424.1.f_at == ((x2.length : Int)))))
else (
some (((⟨r424.2.Kind, r424.2.From, r424.2.About, r424.2.Tuples, r424.2.Abouts, r424.2.Numbers, r424.2.Rate, r424.2.f_Type, r424.2.Count, r424.2.Body⟩ : T_api_Report)), false)))
else (
bif !r72.bad then (
some (((⟨r5, (IntKind.wrap .u32 r61.1), 0, (([] : List T_api_Tuple)), (([] : List Int)), (([] : List Int)), 0, 0, 0, (([] : List Int))⟩ : T_api_Report)), (r72.f_at == ((x2.length : Int)))))
else (
some (((⟨r5, (IntKind.wrap .u32 r61.1), 0, (([] : List T_api_Tuple)), (([] : List Int)), (([] : List Int)), 0, 0, 0, (([] : List Int))⟩ : T_api_Report)), false)))))))
else (
bif r5 == 2 then (
p_rtcp_parse_l0 k (fun r468_2 yg93 yg104 yg108 =>
(bif yg108.bad then (some true) else (some (decide (((yg104.Tuples.length : Int)) > 6)))).bind fun b498 =>
bif !b498 then (
some (((⟨yg104.Kind, yg104.From, yg104.About, yg104.Tuples, yg104.Abouts, yg104.Numbers, yg104.Rate, yg104.f_Type, yg104.Count, yg104.Body⟩ : T_api_Report)), (yg108.f_at == ((r468_2.length : Int)))))
else (
some (((⟨yg104.Kind, yg104.From, yg104.About, yg104.Tuples, yg104.Abouts, yg104.Numbers, yg104.Rate, yg104.f_Type, yg104.Count, yg104.Body⟩ : T_api_Report)), false))) x2 ((⟨0, 0, 0, (([] : List T_api_Tuple)), (([] : List Int)), (([] : List Int)), 0, 0, 0, (([] : List Int))⟩ : T_api_Report)) ((⟨r5, (IntKind.wrap .u32 r61.1), 0, (([] : List T_api_Tuple)), (([] : List Int)), (([] : List Int)), 0, 0, 0, (([] : List Int))⟩ : T_api_Report)) ((⟨r72.b, r72.f_at, r72.bad⟩ : T_rtcp_reader)))
else (
bif r5 == 3 then (
(p_rtcp_reader_num k (⟨r72.b, r72.f_at, r72.bad⟩ : T_rtcp_reader) 4).bind fun r523 =>
bif !r523.2.bad then (
some (((⟨r5, (IntKind.wrap .u32 r61.1), (IntKind.wrap .u32 r523.1), (([] : List T_api_Tuple)), (([] : List Int)), (([] : List Int)), 0, 0, 0, (([] : List Int))⟩ : T_api_Report)), (r523.2.f_at == ((x2.length : Int)))))
else (
some (((⟨r5, (IntKind.wrap .u32 r61.1), (IntKind.wrap .u32 r523.1), (([] : List T_api_Tuple)), (([] : List Int)), (([] : List Int)), 0, 0, 0, (([] : List Int))⟩ : T_api_Report)), false)))
else (
bif r5 == 4 then (
p_rtcp_parse_l1 k (fun r542_2 yg255 yg267 yg271 =>
(bif yg271.bad then (some true) else (some (decide (((yg267.Abouts.length : Int)) < 1)))).bind fun b573 =>
(bif b573 then (some true) else (some (decide (((yg267.Abouts.length : Int)) > 16)))).bind fun b577 =>
bif !b577 then (
some (((⟨yg267.Kind, yg267.From, yg267.About, yg267.Tuples, yg267.Abouts, yg267.Numbers, yg267.Rate, yg267.f_Type, yg267.Count, yg267.Body⟩ : T_api_Report)), (yg271.f_at == ((r542_2.length : Int)))))
else (
some (((⟨yg267.Kind, yg267.From, yg267.About, yg267.Tuples, yg267.Abouts, yg267.Numbers, yg267.Rate, yg267.f_Type, yg267.Count, yg267.Body⟩ : T_api_Report)), false))) x2 ((⟨0, 0, 0, (([] : List T_api_Tuple)), (([] : List Int)), (([] : List Int)), 0, 0, 0, (([] : List Int))⟩ : T_api_Report)) ((⟨r5, (IntKind.wrap .u32 r61.1), 0, (([] : List T_api_Tuple)), (([] : List Int)), (([] : List Int)), 0, 0, 0, (([] : List Int))⟩ : T_api_Report)) ((⟨r72.b, r72.f_at, r72.bad⟩ : T_rtcp_reader)))
else (
bif r5 == 5 then (
(p_rtcp_reader_remb k (⟨r72.b, r72.f_at, r72.bad⟩ : T_rtcp_reader) (⟨r5, (IntKind.wrap .u32 r61.1), 0, (([] : List T_api_Tuple)), (([] : List Int)), (([] : List Int)), 0, 0, 0, (([] : List Int))⟩ : T_api_Report)).bind fun r605 =>
bif !r605.1.bad then (
some (((⟨r605.2.Kind, r605.2.From, r605.2.About, r605.2.Tuples, r605.2.Abouts, r605.2.Numbers, r605.2.Rate, r605.2.f_Type, r605.2.Count, r605.2.Body⟩ : T_api_Report)), (r605.1.f_at == ((x2.length : Int)))))
else (
some (((⟨r605.2.Kind, r605.2.From, r605.2.About, r605.2.Tuples, r605.2.Abouts, r605.2.Numbers, r605.2.Rate, r605.2.f_Type, r605.2.Count, r605.2.Body⟩ : T_api_Report)), false)))
else (
bif !r72.bad then (
some (((⟨r5, (IntKind.wrap .u32 r61.1), 0, (([] : List T_api_Tuple)), (([] : List Int)), (([] : List Int)), 0, 0, 0, (([] : List Int))⟩ : T_api_Report)), (r72.f_at == ((x2.length : Int)))))
else (
some (((⟨r5, (IntKind.wrap .u32 r61.1), 0, (([] : List T_api_Tuple)), (([] : List Int)), (([] : List Int)), 0, 0, 0, (([] : List Int))⟩ : T_api_Report)), false))))))))
else (
bif r5 == 1 then (
bif r5 == 1 then (
p_rtcp_parse_l0 k (fun r649_2 yg93 yg104 yg108 =>
(bif yg108.bad then (some true) else (some (decide (((yg104.Tuples.length : Int)) > 6)))).bind fun b679 =>
bif !b679 then (
some (((⟨yg104.Kind, yg104.From, yg104.About, yg104.Tuples, yg104.Abouts, yg104.Numbers, yg104.Rate, yg104.f_Type, yg104.Count, yg104.Body⟩ : T_api_Report)), (yg108.f_at == ((r649_2.length : Int)))))
else (
some (((⟨yg104.Kind, yg104.From, yg104.About, yg104.Tuples, yg104.Abouts, yg104.Numbers, yg104.Rate, yg104.f_Type, yg104.Count, yg104.Body⟩ : T_api_Report)), false))) x2 ((⟨0, 0, 0, (([] : List T_api_Tuple)), (([] : List Int)), (([] : List Int)), 0, 0, 0, (([] : List Int))⟩ : T_api_Report)) ((⟨r5, (IntKind.wrap .u32 r61.1), 0, (([] : List T_api_Tuple)), (([] : List Int)), (([] : List Int)), 0, 0, 0, (([] : List Int))⟩ : T_api_Report)) ((⟨r61.2.b, r61.2.f_at, r61.2.bad⟩ : T_rtcp_reader)))
else (
bif r5 == 3 then (
(p_rtcp_reader_num k (⟨r61.2.b, r61.2.f_at, r61.2.bad⟩ : T_rtcp_reader) 4).bind fun r704 =>
bif !r704.2.bad then (
some (((⟨r5, (IntKind.wrap .u32 r61.1), (IntKind.wrap .u32 r704.1), (([] : List T_api_Tuple)), (([] : List Int)), (([] : List Int)), 0, 0, 0, (([] : List Int))⟩ : T_api_Report)), (r704.2.f_at == ((x2.length : Int)))))
else (
some (((⟨r5, (IntKind.wrap .u32 r61.1), (IntKind.wrap .u32 r704.1), (([] : List T_api_Tuple)), (([] : List Int)), (([] : List Int)), 0, 0, 0, (([] : List Int))⟩ : T_api_Report)), false)))
else (
bif r5 == 4 then (
p_rtcp_parse_l1 k (fun r723_2 yg255 yg267 yg271 =>
(bif yg271.bad then (some true) else (some (decide (((yg267.Abouts.length : Int)) < 1)))).bind fun b754 =>
(bif b754 then (some true) else (some (decide (((yg267.Abouts.length : Int)) > 16)))).bind fun b758 =>
bif !b758 then (
some (((⟨yg267.Kind, yg267.From, yg267.About, yg267.Tuples, yg267.Abouts, yg267.Numbers, yg267.Rate, yg267.f_Type, yg267.Count, yg267.Body⟩ : T_api_Report)), (yg271.f_at == ((r723_2.length : Int)))))
else (
some (((⟨yg267.Kind, yg267.From, yg267.About, yg267.Tuples, yg267.Abouts, yg267.Numbers, yg267.Rate, yg267.f_Type, yg267.Count, yg267.Body⟩ : T_api_Report)), false))) x2 ((⟨0, 0, 0, (([] : List T_api_Tuple)), (([] : List Int)), (([] : List Int)), 0, 0, 0, (([] : List Int))⟩ : T_api_Report)) ((⟨r5, (IntKind.wrap .u32 r61.1), 0, (([] : List T_api_Tuple)), (([] : List Int)), (([] : List Int)), 0, 0, 0, (([] : List Int))⟩ : T_api_Report)) ((⟨r61.2.b, r61.2.f_at, r61.2.bad⟩ : T_rtcp_reader)))
else (
bif r5 == 5 then (
(p_rtcp_reader_remb k (⟨r61.2.b, r61.2.f_at, r61.2.bad⟩ : T_rtcp_reader) (⟨r5, (IntKind.wrap .u32 r61.1), 0, (([] : List T_api_Tuple)), (([] : List Int)), (([] : List Int)), 0, 0, 0, (([] : List Int))⟩ : T_api_Report)).bind fun r786 =>
bif !r786.1.bad then (
some (((⟨r786.2.Kind, r786.2.From, r786.2.About, r786.2.Tuples, r786.2.Abouts, r786.2.Numbers, r786.2.Rate, r786.2.f_Type, r786.2.Count, r786.2.Body⟩ : T_api_Report)), (r786.1.f_at == ((x2.length : Int)))))
else (
some (((⟨r786.2.Kind, r786.2.From, r786.2.About, r786.2.Tuples, r786.2.Abouts, r786.2.Numbers, r786.2.Rate, r786.2.f_Type, r786.2.Count, r786.2.Body⟩ : T_api_Report)), false)))
else (
bif !r61.2.bad then (
some (((⟨r5, (IntKind.wrap .u32 r61.1), 0, (([] : List T_api_Tuple)), (([] : List Int)), (([] : List Int)), 0, 0, 0, (([] : List Int))⟩ : T_api_Report)), (r61.2.f_at == ((x2.length : Int)))))
else (
some (((⟨r5, (IntKind.wrap .u32 r61.1), 0, (([] : List T_api_Tuple)), (([] : List Int)), (([] : List Int)), 0, 0, 0, (([] : List Int))⟩ : T_api_Report)), false)))))))
else (
bif r5 == 2 then (
p_rtcp_parse_l0 k (fun r830_2 yg93 yg104 yg108 =>
(bif yg108.bad then (some true) else (some (decide (((yg104.Tuples.length : Int)) > 6)))).bind fun b860 =>
bif !b860 then (
some (((⟨yg104.Kind, yg104.From, yg104.About, yg104.Tuples, yg104.Abouts, yg104.Numbers, yg104.Rate, yg104.f_Type, yg104.Count, yg104.Body⟩ : T_api_Report)), (yg108.f_at == ((r830_2.length : Int)))))
else (
some (((⟨yg104.Kind, yg104.From, yg104.About, yg104.Tuples, yg104.Abouts, yg104.Numbers, yg104.Rate, yg104.f_Type, yg104.Count, yg104.Body⟩ : T_api_Report)), false))) x2 ((⟨0, 0, 0, (([] : List T_api_Tuple)), (([] : List Int)), (([] : List Int)), 0, 0, 0, (([] : List Int))⟩ : T_api_Report)) ((⟨r5, (IntKind.wrap .u32 r61.1), 0, (([] : List T_api_Tuple)), (([] : List Int)), (([] : List Int)), 0, 0, 0, (([] : List Int))⟩ : T_api_Report)) ((⟨r61.2.b, r61.2.f_at, r61.2.bad⟩ : T_rtcp_reader)))
else (
bif r5 == 3 then (
(p_rtcp_reader_num k (⟨r61.2.b, r61.2.f_at, r61.2.bad⟩ : T_rtcp_reader) 4).bind fun r885 =>
bif !r885.2.bad then (
some (((⟨r5, (IntKind.wrap .u32 r61.1), (IntKind.wrap .u32 r885.1), (([] : List T_api_Tuple)), (([] : List Int)), (([] : List Int)), 0, 0, 0, (([] : List Int))⟩ : T_api_Report)), (r885.2.f_at == ((x2.length : Int)))))
else (
some (((⟨r5, (IntKind.wrap .u32 r61.1), (IntKind.wrap .u32 r885.1), (([] : List T_api_Tuple)), (([] : List Int)), (([] : List Int)), 0, 0, 0, (([] : List Int))⟩ : T_api_Report)), false)))
else (
bif r5 == 4 then (
p_rtcp_parse_l1 k (fun r904_2 yg255 yg267 yg271 =>
(bif yg271.bad then (some true) else (some (decide (((yg267.Abouts.length : Int)) < 1)))).bind fun b935 =>
(bif b935 then (some true) else (some (decide (((yg267.Abouts.length : Int)) > 16)))).bind fun b939 =>
bif !b939 then (
some (((⟨yg267.Kind, yg267.From, yg267.About, yg267.Tuples, yg267.Abouts, yg267.Numbers, yg267.Rate, yg267.f_Type, yg267.Count, yg267.Body⟩ : T_api_Report)), (yg271.f_at == ((r904_2.length : Int)))))
else (
some (((⟨yg267.Kind, yg267.From, yg267.About, yg267.Tuples, yg267.Abouts, yg267.Numbers, yg267.Rate, yg267.f_Type, yg267.Count, yg267.Body⟩ : T_api_Report)), false))) x2 ((⟨0, 0, 0, (([] : List T_api_Tuple)), (([] : List Int)), (([] : List Int)), 0, 0, 0, (([] : List Int))⟩ : T_api_Report)) ((⟨r5, (IntKind.wrap .u32 r61.1), 0, (([] : List T_api_Tuple)), (([] : List Int)), (([] : List Int)), 0, 0, 0, (([] : List Int))⟩ : T_api_Report)) ((⟨r61.2.b, r61.2.f_at, r61.2.bad⟩ : T_rtcp_reader)))
else (
bif r5 == 5 then (
(p_rtcp_reader_remb k (⟨r61.2.b, r61.2.f_at, r61.2.bad⟩ : T_rtcp_reader) (⟨r5, (IntKind.wrap .u32 r61.1), 0, (([] : List T_api_Tuple)), (([] : List Int)), (([] : List Int)), 0, 0, 0, (([] : List Int))⟩ : T_api_Report)).bind fun r967 =>
bif !r967.1.bad then (
some (((⟨r967.2.Kind, r967.2.From, r967.2.About, r967.2.Tuples, r967.2.Abouts, r967.2.Numbers, r967.2.Rate, r967.2.f_Type, r967.2.Count, r967.2.Body⟩ : T_api_Report)), (r967.1.f_at == ((x2.length : Int)))))
else (
some (((⟨r967.2.Kind, r967.2.From, r967.2.About, r967.2.Tuples, r967.2.Abouts, r967.2.Numbers, r967.2.Rate, r967.2.f_Type, r967.2.Count, r967.2.Body⟩ : T_api_Report)), false)))
else (
bif !r61.2.bad then (
some (((⟨r5, (IntKind.wrap .u32 r61.1), 0, (([] : List T_api_Tuple)), (([] : List Int)), (([] : List Int)), 0, 0, 0, (([] : List Int))⟩ : T_api_Report)), (r61.2.f_at == ((x2.length : Int)))))
else (
some (((⟨r5, (IntKind.wrap .u32 r61.1), 0, (([] : List T_api_Tuple)), (([] : List Int)), (([] : List Int)), 0, 0, 0, (([] : List Int))⟩ : T_api_Report)), false)))))))))
theorem rtcp_parse_l0_ok {h : H}  {β α : Type} {Q : β → α → Prop} {K : Exit × Env × H → Option α} {kE0 : (List Int) → T_api_Report → T_api_Report → T_rtcp_reader → Option β} (hE0 : ∀ (q2 : (List Int)) (yg93 : T_api_Report) (yg104 : T_api_Report) (yg108 : T_rtcp_reader) (v141 : V) (h142 : SlF (dI .u8) q2 v141) (v143 : V) (h144 : SlF dT_api_Tuple yg93.Tuples v143) (v145 : V) (h146 : SlF (dI .u32) yg93.Abouts v145) (v147 : V) (h148 : SlF (dI .i64) yg93.Numbers v147) (v149 : V) (h150 : SlF (dI .u8) yg93.Body v149) (s151 : Stamp) (c153 : C) (h154 : SoC dT_api_Tuple yg104.Tuples c153) (h155 : ∀ v, c153 = .v v → v = .p (.slice none 0 0) ∨ v = .fz [] 0 3 true) (v156 : V) (h157 : SlF (dI .u32) yg104.Abouts v156) (v158 : V) (h159 : SlF (dI .i64) yg104.Numbers v158) (v160 : V) (h161 : SlF (dI .u8) yg104.Body v160) (s162 : Stamp) (v164 : V) (h165 : SlF (dI .u8) yg108.b v164) (s166 : Stamp) (H139 : Go.Ev.H) (_ : Fm 130 h [] [(6, s151, List.map C.v [(.p (.int .i64 yg93.Kind)), (.p (.int .u32 yg93.From)), (.p (.int .u32 yg93.About)), v143, v145, v147, (.p (.int .u64 yg93.Rate)), (.p (.int .i64 yg93.f_Type)), (.p (.int .i64 yg93.Count)), v149]), (8, s162, [.v (.p (.int .i64 yg104.Kind)), .v (.p (.int .u32 yg104.From)), .v (.p (.int .u32 yg104.About)), c153, .v v156, .v v158, .v (.p (.int .u64 yg104.Rate)), .v (.p (.int .i64 yg104.f_Type)), .v (.p (.int .i64 yg104.Count)), .v v160]), (27, s166, List.map C.v [v164, (.p (.int .i64 yg108.f_at)), (.p (.bool yg108.bad))])] [] H139), Sim (kE0 q2 yg93 yg104 yg108) (K ((.exit 1), (envL [(2, v141), (6, (.ref ⟨h.length, 6, 0, s151, []⟩ 0)), (8, (.ref ⟨h.length, 8, 0, s162, []⟩ 0)), (9, (.ref ⟨h.length, 27, 0, s166, []⟩ 0))]), H139)) Q) (k : Nat) : ∀ (x2 : (List Int)) (yg4 : T_api_Report) (yg13 : T_api_Report) (yg60 : T_rtcp_reader) (v82 : V) (h83 : SlF (dI .u8) x2 v82) (v84 : V) (h85 : SlF dT_api_Tuple yg4.Tuples v84) (v86 : V) (h87 : SlF (dI .u32) yg4.Abouts v86) (v88 : V) (h89 : SlF (dI .i64) yg4.Numbers v88) (v90 : V) (h91 : SlF (dI .u8) yg4.Body v90) (s92 : Stamp) (c94 : C) (h95 : SoC dT_api_Tuple yg13.Tuples c94) (h96 : ∀ v, c94 = .v v → v = .p (.slice none 0 0) ∨ v = .fz [] 0 3 true) (v97 : V) (h98 : SlF (dI .u32) yg13.Abouts v97) (v99 : V) (h100 : SlF (dI .i64) yg13.Numbers v99) (v101 : V) (h102 : SlF (dI .u8) yg13.Body v101) (s103 : Stamp) (v105 : V) (h106 : SlF (dI .u8) yg60.b v105) (s107 : Stamp) (H80 : Go.Ev.H) (_ : Fm 130 h [] [(6, s92, List.map C.v [(.p (.int .i64 yg4.Kind)), (.p (.int .u32 yg4.From)), (.p (.int .u32 yg4.About)), v84, v86, v88, (.p (.int .u64 yg4.Rate)), (.p (.int .i64 yg4.f_Type)), (.p (.int .i64 yg4.Count)), v90]), (8, s103, [.v (.p (.int .i64 yg13.Kind)), .v (.p (.int .u32 yg13.From)), .v (.p (.int .u32 yg13.About)), c94, .v v97, .v v99, .v (.p (.int .u64 yg13.Rate)), .v (.p (.int .i64 yg13.f_Type)), .v (.p (.int .i64 yg13.Count)), .v v101]), (27, s107, List.map C.v [v105, (.p (.int .i64 yg60.f_at)), (.p (.bool yg60.bad))])] [] H80) {σ : Stamp}, Sim (p_rtcp_parse_l0 k kE0 x2 yg4 yg13 yg60) ((cvL G X0 rtcp_parse_c0 rtcp_parse_l0 σ (envL [(2, v82), (6, (.ref ⟨h.length, 6, 0, s92, []⟩ 0)), (8, (.ref ⟨h.length, 8, 0, s103, []⟩ 0)), (9, (.ref ⟨h.length, 27, 0, s107, []⟩ 0))]) H80).bind K) Q := by
  induction k with
  | zero => intros; exact Sim.no
  | succ k ih =>
    intro x2 yg4 yg13 yg60 v82 h83 v84 h85 v86 h87 v88 h89 v90 h91 s92 c94 h95 h96 v97 h98 v99 h100 v101 h102 s103 v105 h106 s107 H80 S81 σ
    rw [p_rtcp_parse_l0]
    refine Sim.round (Sim.ext (rtcp_parse_r0 _ _ _ _ _ _ _ _) ?_)
    refine Sim.call (rtcp_reader_left_ok (⟨yg60.b, yg60.f_at, yg60.bad⟩ : T_rtcp_reader) h106 (S81.atG (i := 2) rfl)) fun r109 cs110 H111 h112 q113 => ?_
    cases q113
    refine Sim.op (asB_p _) ?_
    refine Sim.cd (fun hc => ?_) (fun hc => ?_)
    · refine Sim.op (fA_ref _ _ _) ?_
      refine Sim.op (h95.ld (S81.atG (i := 1) rfl) (j := 3) rfl) ?_
      refine Sim.call (rtcp_reader_tuple_ok k (⟨yg60.b, yg60.f_at, yg60.bad⟩ : T_rtcp_reader) h106 (S81.atG (i := 2) rfl)) fun r114 cs115 H116 h117 q118 => ?_
      obtain ⟨w119, v121, h120, h122, q118⟩ := q118
      cases q118
      obtain rfl := dT_api_Tuple.inv h120
      have S123 := S81.setG (i := 2) (cs' := List.map C.v [v121, (.p (.int .i64 r114.2.f_at)), (.p (.bool r114.2.bad))]) rfl rfl rfl
      refine Sim.nd (h95.ld (S123.atG (i := 1) rfl) (j := 3) rfl) ?_
      have h124 : SlF dT_api_Tuple [r114.1] (.fz [(.p (.int .u32 r114.1.Owner)), (.p (.int .u64 r114.1.Rate)), (.p (.int .i64 r114.1.Over))] 1 3 true) := SlF.lit (cs := [(.p (.int .u32 r114.1.Owner)), (.p (.int .u64 r114.1.Rate)), (.p (.int .i64 r114.1.Over))]) (RL.cons (show dT_api_Tuple.R r114.1 [(.p (.int .u32 r114.1.Owner)), (.p (.int .u64 r114.1.Rate)), (.p (.int .i64 r114.1.Over))] from h120) RL.nil) rfl rfl true
      refine Sim.op (bldS (pt_cons (c := [(.p (.int .u32 r114.1.Owner)), (.p (.int .u64 r114.1.Rate)), (.p (.int .i64 r114.1.Over))]) rfl pt_nil) (by kernel_rfl : _ = some (.fz [(.p (.int .u32 r114.1.Owner)), (.p (.int .u64 r114.1.Rate)), (.p (.int .i64 r114.1.Over))] 1 3 true))) ?_
      refine Sim.bd fun a125 h126 => ?_
      obtain ⟨v127, c128, H129, e130, S131⟩ := S123.appG (i := 1) (j := 3) (d := 49) (e := 3) (own := false) (σ := (5 :: 1 :: 0 :: σ)) rfl rfl h95 h96 (h124.h (ptC H80 ⟨h.length, 27, 0, s107, []⟩ 0 (List.map C.v [v121, (.p (.int .i64 r114.2.f_at)), (.p (.bool r114.2.bad))]))).y h126 (by simp) rfl (by decide) (by decide) rfl rfl
      refine Sim.op (e130) ?_
      refine Sim.op (fA_ref _ _ _) ?_
      obtain ⟨c136, H133, e134, h137, h138, S135⟩ := S131.mvG (i := 1) (j := 3) (k := 0) (σ := (7 :: 1 :: 0 :: σ)) rfl rfl rfl rfl rfl rfl
      refine Sim.op (st_map e134) ?_
      exact ih x2 ((⟨yg4.Kind, yg4.From, yg4.About, yg4.Tuples, yg4.Abouts, yg4.Numbers, yg4.Rate, yg4.f_Type, yg4.Count, yg4.Body⟩ : T_api_Report)) ((⟨yg13.Kind, yg13.From, yg13.About, a125, yg13.Abouts, yg13.Numbers, yg13.Rate, yg13.f_Type, yg13.Count, yg13.Body⟩ : T_api_Report)) ((⟨r114.2.b, r114.2.f_at, r114.2.bad⟩ : T_rtcp_reader)) v82 h83 v84 h85 v86 h87 v88 h89 v90 h91 s92 c136 h137 h138 v97 h98 v99 h100 v101 h102 s103 v121 h122 s107 H133 (S135.wk2 (all_cons (at_mem 0 rfl) (all_cons (at_mem 1 rfl) (all_cons (at_mem 2 rfl) all_nil))) all_nil)
    · exact hE0 x2 ((⟨yg4.Kind, yg4.From, yg4.About, yg4.Tuples, yg4.Abouts, yg4.Numbers, yg4.Rate, yg4.f_Type, yg4.Count, yg4.Body⟩ : T_api_Report)) ((⟨yg13.Kind, yg13.From, yg13.About, yg13.Tuples, yg13.Abouts, yg13.Numbers, yg13.Rate, yg13.f_Type, yg13.Count, yg13.Body⟩ : T_api_Report)) ((⟨yg60.b, yg60.f_at, yg60.bad⟩ : T_rtcp_reader)) v82 h83 v84 h85 v86 h87 v88 h89 v90 h91 s92 c94 h95 h96 v97 h98 v99 h100 v101 h102 s103 v105 h106 s107 H80 (S81.wk2 (all_cons (at_mem 0 rfl) (all_cons (at_mem 1 rfl) (all_cons (at_mem 2 rfl) all_nil))) all_nil)
theorem rtcp_parse_l1_ok {h : H}  {β α : Type} {Q : β → α → Prop} {K : Exit × Env × H → Option α} {kE0 : (List Int) → T_api_Report → T_api_Report → T_rtcp_reader → Option β} (hE0 : ∀ (q2 : (List Int)) (yg255 : T_api_Report) (yg267 : T_api_Report) (yg271 : T_rtcp_reader) (v333 : V) (h334 : SlF (dI .u8) q2 v333) (v335 : V) (h336 : SlF dT_api_Tuple yg255.Tuples v335) (v337 : V) (h338 : SlF (dI .u32) yg255.Abouts v337) (v339 : V) (h340 : SlF (dI .i64) yg255.Numbers v339) (v341 : V) (h342 : SlF (dI .u8) yg255.Body v341) (s343 : Stamp) (v345 : V) (h346 : SlF dT_api_Tuple yg267.Tuples v345) (c347 : C) (h348 : SoC (dI .u32) yg267.Abouts c347) (h349 : ∀ v, c347 = .v v → v = .p (.slice none 0 0) ∨ v = .fz [] 0 1 true) (c350 : C) (h351 : SoC (dI .i64) yg267.Numbers c350) (h352 : ∀ v, c350 = .v v → v = .p (.slice none 0 0) ∨ v = .fz [] 0 1 true) (v353 : V) (h354 : SlF (dI .u8) yg267.Body v353) (s355 : Stamp) (v357 : V) (h358 : SlF (dI .u8) yg271.b v357) (s359 : Stamp) (H331 : Go.Ev.H) (_ : Fm 130 h [] [(6, s343, List.map C.v [(.p (.int .i64 yg255.Kind)), (.p (.int .u32 yg255.From)), (.p (.int .u32 yg255.About)), v335, v337, v339, (.p (.int .u64 yg255.Rate)), (.p (.int .i64 yg255.f_Type)), (.p (.int .i64 yg255.Count)), v341]), (8, s355, [.v (.p (.int .i64 yg267.Kind)), .v (.p (.int .u32 yg267.From)), .v (.p (.int .u32 yg267.About)), .v v345, c347, c350, .v (.p (.int .u64 yg267.Rate)), .v (.p (.int .i64 yg267.f_Type)), .v (.p (.int .i64 yg267.Count)), .v v353]), (27, s359, List.map C.v [v357, (.p (.int .i64 yg271.f_at)), (.p (.bool yg271.bad))])] [] H331), Sim (kE0 q2 yg255 yg267 yg271) (K ((.exit 3), (envL [(2, v333), (6, (.ref ⟨h.length, 6, 0, s343, []⟩ 0)), (8, (.ref ⟨h.length, 8, 0, s355, []⟩ 0)), (9, (.ref ⟨h.length, 27, 0, s359, []⟩ 0))]), H331)) Q) (k : Nat) : ∀ (x2 : (List Int)) (yg4 : T_api_Report) (yg13 : T_api_Report) (yg60 : T_rtcp_reader) (v244 : V) (h245 : SlF (dI .u8) x2 v244) (v246 : V) (h247 : SlF dT_api_Tuple yg4.Tuples v246) (v248 : V) (h249 : SlF (dI .u32) yg4.Abouts v248) (v250 : V) (h251 : SlF (dI .i64) yg4.Numbers v250) (v252 : V) (h253 : SlF (dI .u8) yg4.Body v252) (s254 : Stamp) (v256 : V) (h257 : SlF dT_api_Tuple yg13.Tuples v256) (c258 : C) (h259 : SoC (dI .u32) yg13.Abouts c258) (h260 : ∀ v, c258 = .v v → v = .p (.slice none 0 0) ∨ v = .fz [] 0 1 true) (c261 : C) (h262 : SoC (dI .i64) yg13.Numbers c261) (h263 : ∀ v, c261 = .v v → v = .p (.slice none 0 0) ∨ v = .fz [] 0 1 true) (v264 : V) (h265 : SlF (dI .u8) yg13.Body v264) (s266 : Stamp) (v268 : V) (h269 : SlF (dI .u8) yg60.b v268) (s270 : Stamp) (H242 : Go.Ev.H) (_ : Fm 130 h [] [(6, s254, List.map C.v [(.p (.int .i64 yg4.Kind)), (.p (.int .u32 yg4.From)), (.p (.int .u32 yg4.About)), v246, v248, v250, (.p (.int .u64 yg4.Rate)), (.p (.int .i64 yg4.f_Type)), (.p (.int .i64 yg4.Count)), v252]), (8, s266, [.v (.p (.int .i64 yg13.Kind)), .v (.p (.int .u32 yg13.From)), .v (.p (.int .u32 yg13.About)), .v v256, c258, c261, .v (.p (.int .u64 yg13.Rate)), .v (.p (.int .i64 yg13.f_Type)), .v (.p (.int .i64 yg13.Count)), .v v264]), (27, s270, List.map C.v [v268, (.p (.int .i64 yg60.f_at)), (.p (.bool yg60.bad))])] [] H242) {σ : Stamp}, Sim (p_rtcp_parse_l1 k kE0 x2 yg4 yg13 yg60) ((cvL G X0 rtcp_parse_c1 rtcp_parse_l1 σ (envL [(2, v244), (6, (.ref ⟨h.length, 6, 0, s254, []⟩ 0)), (8, (.ref ⟨h.length, 8, 0, s266, []⟩ 0)), (9, (.ref ⟨h.length, 27, 0, s270, []⟩ 0))]) H242).bind K) Q := by
  induction k with
  | zero => intros; exact Sim.no
  | succ k ih =>
    intro x2 yg4 yg13 yg60 v244 h245 v246 h247 v248 h249 v250 h251 v252 h253 s254 v256 h257 c258 h259 h260 c261 h262 h263 v264 h265 s266 v268 h269 s270 H242 S243 σ
    rw [p_rtcp_parse_l1]
    refine Sim.round (Sim.ext (rtcp_parse_r1 _ _ _ _ _ _ _ _) ?_)
    refine Sim.call (rtcp_reader_left_ok (⟨yg60.b, yg60.f_at, yg60.bad⟩ : T_rtcp_reader) h269 (S243.atG (i := 2) rfl)) fun r272 cs273 H274 h275 q276 => ?_
    cases q276
    refine Sim.op (asB_p _) ?_
    refine Sim.cd (fun hc => ?_) (fun hc => ?_)
    · refine Sim.op (fA_ref _ _ _) ?_
      refine Sim.op (h259.ld (S243.atG (i := 1) rfl) (j := 4) rfl) ?_
      refine Sim.call (rtcp_reader_num_ok k (⟨yg60.b, yg60.f_at, yg60.bad⟩ : T_rtcp_reader) h269 (S243.atG (i := 2) rfl) 4) fun r277 cs278 H279 h280 q281 => ?_
      obtain ⟨v282, h283, q281⟩ := q281
      cases q281
      have S284 := S243.setG (i := 2) (cs' := List.map C.v [v282, (.p (.int .i64 r277.2.f_at)), (.p (.bool r277.2.bad))]) rfl rfl rfl
      refine Sim.op (castI_p _ _) ?_
      refine Sim.nd (h259.ld (S284.atG (i := 1) rfl) (j := 4) rfl) ?_
      have h285 : SlF (dI .u32) [(IntKind.wrap .u32 r277.1)] (.fz [(.p (.int .u32 (IntKind.wrap .u32 r277.1)))] 1 1 true) := SlF.lit (cs := [(.p (.int .u32 (IntKind.wrap .u32 r277.1)))]) (RL.cons (show (dI .u32).R (IntKind.wrap .u32 r277.1) [(.p (.int .u32 (IntKind.wrap .u32 r277.1)))] from rfl) RL.nil) rfl rfl true
      refine Sim.op (bldS (pt_cons rfl pt_nil) (by kernel_rfl : _ = some (.fz [(.p (.int .u32 (IntKind.wrap .u32 r277.1)))] 1 1 true))) ?_
      refine Sim.bd fun a286 h287 => ?_
      obtain ⟨v288, c289, H290, e291, S292⟩ := S284.appG (i := 1) (j := 4) (d := 80) (e := 1) (own := true) (σ := (6 :: 0 :: 1 :: 0 :: σ)) rfl rfl h259 h260 (h285.h (ptC H242 ⟨h.length, 27, 0, s270, []⟩ 0 (List.map C.v [v282, (.p (.int .i64 r277.2.f_at)), (.p (.bool r277.2.bad))]))).y h287 (by simp) rfl (by decide) (by decide) rfl rfl
      refine Sim.op (e291) ?_
      refine Sim.op (fA_ref _ _ _) ?_
      obtain ⟨c297, H294, e295, h298, h299, S296⟩ := S292.mvG (i := 1) (j := 4) (k := 0) (σ := (8 :: 0 :: 1 :: 0 :: σ)) rfl rfl rfl rfl rfl rfl
      refine Sim.op (st_map e295) ?_
      refine Sim.op (fA_ref _ _ _) ?_
      refine Sim.op (h262.ld (S296.atG (i := 1) rfl) (j := 5) rfl) ?_
      refine Sim.call (rtcp_reader_num_ok k (⟨r277.2.b, r277.2.f_at, r277.2.bad⟩ : T_rtcp_reader) h283 (S296.atG (i := 2) rfl) 1) fun r300 cs301 H302 h303 q304 => ?_
      obtain ⟨v305, h306, q304⟩ := q304
      cases q304
      have S307 := S296.setG (i := 2) (cs' := List.map C.v [v305, (.p (.int .i64 r300.2.f_at)), (.p (.bool r300.2.bad))]) rfl rfl rfl
      refine Sim.op (castI_p _ _) ?_
      refine Sim.nd (h262.ld (S307.atG (i := 1) rfl) (j := 5) rfl) ?_
      have h308 : SlF (dI .i64) [(IntKind.wrap .i64 r300.1)] (.fz [(.p (.int .i64 (IntKind.wrap .i64 r300.1)))] 1 1 true) := SlF.lit (cs := [(.p (.int .i64 (IntKind.wrap .i64 r300.1)))]) (RL.cons (show (dI .i64).R (IntKind.wrap .i64 r300.1) [(.p (.int .i64 (IntKind.wrap .i64 r300.1)))] from rfl) RL.nil) rfl rfl true
      refine Sim.op (bldS (pt_cons rfl pt_nil) (by kernel_rfl : _ = some (.fz [(.p (.int .i64 (IntKind.wrap .i64 r300.1)))] 1 1 true))) ?_
      refine Sim.bd fun a309 h310 => ?_
      obtain ⟨v311, c312, H313, e314, S315⟩ := S307.appG (i := 1) (j := 5) (d := 88) (e := 1) (own := true) (σ := (6 :: 0 :: 1 :: 1 :: 0 :: σ)) rfl rfl h262 h263 (h308.h (ptC H294 ⟨h.length, 27, 0, s270, []⟩ 0 (List.map C.v [v305, (.p (.int .i64 r300.2.f_at)), (.p (.bool r300.2.bad))]))).y h310 (by simp) rfl (by decide) (by decide) rfl rfl
      refine Sim.op (e314) ?_
      refine Sim.op (fA_ref _ _ _) ?_
      obtain ⟨c320, H317, e318, h321, h322, S319⟩ := S315.mvG (i := 1) (j := 5) (k := 0) (σ := (8 :: 0 :: 1 :: 1 :: 0 :: σ)) rfl rfl rfl rfl rfl rfl
      refine Sim.op (st_map e318) ?_
      refine Sim.call (rtcp_reader_nought_ok k (⟨r300.2.b, r300.2.f_at, r300.2.bad⟩ : T_rtcp_reader) h306 (S319.atG (i := 2) rfl) 3) fun r323 cs324 H325 h326 q327 => ?_
      obtain ⟨v328, h329, q327⟩ := q327
      cases q327
      have S330 := S319.setG (i := 2) (cs' := List.map C.v [v328, (.p (.int .i64 r323.f_at)), (.p (.bool r323.bad))]) rfl rfl rfl
      exact ih x2 ((⟨yg4.Kind, yg4.From, yg4.About, yg4.Tuples, yg4.Abouts, yg4.Numbers, yg4.Rate, yg4.f_Type, yg4.Count, yg4.Body⟩ : T_api_Report)) ((⟨yg13.Kind, yg13.From, yg13.About, yg13.Tuples, a286, a309, yg13.Rate, yg13.f_Type, yg13.Count, yg13.Body⟩ : T_api_Report)) ((⟨r323.b, r323.f_at, r323.bad⟩ : T_rtcp_reader)) v244 h245 v246 h247 v248 h249 v250 h251 v252 h253 s254 v256 h257 c297 h298 h299 c320 h321 h322 v264 h265 s266 v328 h329 s270 (ptC H317 ⟨h.length, 27, 0, s270, []⟩ 0 (List.map C.v [v328, (.p (.int .i64 r323.f_at)), (.p (.bool r323.bad))])) (S330.wk2 (all_cons (at_mem 0 rfl) (all_cons (at_mem 1 rfl) (all_cons (at_mem 2 rfl) all_nil))) all_nil)
    · exact hE0 x2 ((⟨yg4.Kind, yg4.From, yg4.About, yg4.Tuples, yg4.Abouts, yg4.Numbers, yg4.Rate, yg4.f_Type, yg4.Count, yg4.Body⟩ : T_api_Report)) ((⟨yg13.Kind, yg13.From, yg13.About, yg13.Tuples, yg13.Abouts, yg13.Numbers, yg13.Rate, yg13.f_Type, yg13.Count, yg13.Body⟩ : T_api_Report)) ((⟨yg60.b, yg60.f_at, yg60.bad⟩ : T_rtcp_reader)) v244 h245 v246 h247 v248 h249 v250 h251 v252 h253 s254 v256 h257 c258 h259 h260 c261 h262 h263 v264 h265 s266 v268 h269 s270 H242 (S243.wk2 (all_cons (at_mem 0 rfl) (all_cons (at_mem 1 rfl) (all_cons (at_mem 2 rfl) all_nil))) all_nil)
theorem rtcp_parse_ok (k : Nat) {h : H} {σ : Stamp} (x0 : Int) (x1 : Int) (x2 : List Int) {u2 : V} (hu2 : SlF (dI .u8) x2 u2) : Sim (p_rtcp_parse k x0 x1 x2) (ev G X0 97 σ [(.p (.int .i64 x0)), (.p (.int .i64 x1)), u2] h) (fun r s => ∃ (w0 : List V), dT_api_Report.R r.1 w0 ∧ s = ([.v (.agg w0), .v (.p (.bool r.2))], h)) := by
  refine Sim.ev rfl (Sim.ext (rtcp_parse_entry _ _ _ _ _ _ _) ?_)
  rw [p_rtcp_parse]
  have S0 : Fm 130 h [] [] [] (List.replicate 130 [] :: h) := Fm.start0
  obtain ⟨H1, e2, S3⟩ := S0.al (d := 6) (s := (0 :: 0 :: 0 :: σ)) (z := [(.p (.int .i64 0)), (.p (.int .u32 0)), (.p (.int .u32 0)), (.p (.slice none 0 0)), (.p (.slice none 0 0)), (.p (.slice none 0 0)), (.p (.int .u64 0)), (.p (.int .i64 0)), (.p (.int .i64 0)), (.p (.slice none 0 0))]) (by decide) rfl
  refine Sim.op (congrArg some e2) ?_
  refine Sim.call (rtcp_kind_ok x0 x1) fun r5 cs6 H7 h8 q9 => ?_
  cases q9
  refine Sim.op (castI_p _ _) ?_
  refine Sim.op (bldV (pt_cons rfl pt_nil) (by kernel_rfl : _ = some (.agg [.p (.int .i64 r5), .p (.int .u32 0), .p (.int .u32 0), .p (.slice none 0 0), .p (.slice none 0 0), .p (.slice none 0 0), .p (.int .u64 0), .p (.int .i64 0), .p (.int .i64 0), .p (.slice none 0 0)]))) ?_
  obtain ⟨H10, e11, S12⟩ := S3.al (d := 8) (s := (4 :: 0 :: 1 :: 0 :: σ)) (z := [(.p (.int .i64 0)), (.p (.int .u32 0)), (.p (.int .u32 0)), (.p (.slice none 0 0)), (.p (.slice none 0 0)), (.p (.slice none 0 0)), (.p (.int .u64 0)), (.p (.int .i64 0)), (.p (.int .i64 0)), (.p (.slice none 0 0))]) (by decide) rfl
  refine Sim.op (congrArg some e11) ?_
  obtain ⟨H14, e15, S16⟩ := S12.stGv (i := 0) (j := 0) (own := false) (σ := (5 :: 0 :: 1 :: 0 :: σ)) (xs := [.p (.int .i64 r5), .p (.int .u32 0), .p (.int .u32 0), .p (.slice none 0 0), .p (.slice none 0 0), .p (.slice none 0 0), .p (.int .u64 0), .p (.int .i64 0), .p (.int .i64 0), .p (.slice none 0 0)]) rfl rfl (stills_cons (still_int _ _) (stills_cons (still_int _ _) (stills_cons (still_int _ _) (stills_cons (SlF.nil dT_api_Tuple).still (stills_cons (SlF.nil (dI .u32)).still (stills_cons (SlF.nil (dI .i64)).still (stills_cons (still_int _ _) (stills_cons (still_int _ _) (stills_cons (still_int _ _) (stills_cons (SlF.nil (dI .u8)).still stills_nil)))))))))) rfl rfl
  refine Sim.op (st_map e15) ?_
  refine Sim.op (fA_ref _ _ _) ?_
  refine Sim.op ((S16.atG (i := 0) rfl).ld (j := 0) rfl) ?_
  refine Sim.op (castI_p _ _) ?_
  refine Sim.cd (fun hc => ?_) (fun hc => ?_)
  · refine Sim.call (clone_ok (b := 1) (f := 95) (tt := 5) (e := 1) (τ := fun σ => _ :: _ :: _ :: _ :: _ :: σ) (fun x h => slices_Clone_Lbyte_byte_entry _ _ _ x h) (hu2.h H14) rfl (by decide) (by decide) (by decide) (by kernel_rfl) (by kernel_rfl) rfl) fun r17 cs18 H19 h20 q21 => ?_
    obtain ⟨c22, cs23, h24, h25, q21⟩ := q21
    cases q21
    obtain ⟨v26, H27, e28, S29⟩ := S16.land (dt := (dI .u8)) (d := 20) (e := 0) (n := 0) h24 h25 (by decide) rfl
    erw [e28]
    refine Sim.op (fA_ref _ _ _) ?_
    obtain ⟨H31, e32, S33⟩ := S29.stG (i := 0) (j := 7) (own := true) (σ := (5 :: 0 :: 1 :: 0 :: 1 :: 1 :: 0 :: σ)) (x := (.p (.int .i64 x0))) rfl rfl (still_int _ _) rfl
    refine Sim.op (st_map e32) ?_
    refine Sim.op (fA_ref _ _ _) ?_
    obtain ⟨H34, e35, S36⟩ := S33.stG (i := 0) (j := 8) (own := true) (σ := (7 :: 0 :: 1 :: 0 :: 1 :: 1 :: 0 :: σ)) (x := (.p (.int .i64 x1))) rfl rfl (still_int _ _) rfl
    refine Sim.op (st_map e35) ?_
    refine Sim.op (fA_ref _ _ _) ?_
    obtain ⟨c40, H37, e38, h41, h42, S39⟩ := S36.mvG (i := 0) (j := 9) (k := 0) (σ := (9 :: 0 :: 1 :: 0 :: 1 :: 1 :: 0 :: σ)) rfl rfl rfl rfl rfl rfl
    refine Sim.op (st_map e38) ?_
    obtain ⟨v43, h44, h45⟩ := h41.fr
    obtain ⟨w46, H47, h52, e48, e49, e50, S51⟩ := S39.frzV (i := 0) (n := 10) (ys := [(.p (.int .i64 r5)), (.p (.int .u32 0)), (.p (.int .u32 0)), (.p (.slice none 0 0)), (.p (.slice none 0 0)), (.p (.slice none 0 0)), (.p (.int .u64 0)), (.p (.int .i64 x0)), (.p (.int .i64 x1)), v43]) rfl rfl ⟨(FrC.v (still_int _ _)), ⟨(FrC.v (still_int _ _)), ⟨(FrC.v (still_int _ _)), ⟨(FrC.v (SlF.nil dT_api_Tuple).still), ⟨(FrC.v (SlF.nil (dI .u32)).still), ⟨(FrC.v (SlF.nil (dI .i64)).still), ⟨(FrC.v (still_int _ _)), ⟨(FrC.v (still_int _ _)), ⟨(FrC.v (still_int _ _)), ⟨h44, trivial⟩⟩⟩⟩⟩⟩⟩⟩⟩⟩ rfl (by decide)
    refine Sim.op (e48) ?_
    obtain ⟨H53, e54, S55⟩ := Fm.stFrz (S0 := S39) (i0 := 1) (i := 1) (j := 0) (n := 10) (σ := (1 :: 0 :: 1 :: 1 :: 0 :: 1 :: 1 :: 0 :: σ)) S51 rfl e50 rfl rfl h52 rfl rfl
    refine Sim.op (st_map e54) ?_
    have e56 : ldO true 10 H53 (.ref ⟨h.length, 6, 0, (0 :: 0 :: 0 :: σ), []⟩ 0) = some (.agg [.p (.int .i64 r5), .p (.int .u32 0), .p (.int .u32 0), .p (.slice none 0 0), .p (.slice none 0 0), .p (.slice none 0 0), .p (.int .u64 0), .p (.int .i64 x0), .p (.int .i64 x1), v43]) := (S55.atG (i := 1) rfl).ldVs (j := 0) (xs := [.p (.int .i64 r5), .p (.int .u32 0), .p (.int .u32 0), .p (.slice none 0 0), .p (.slice none 0 0), .p (.slice none 0 0), .p (.int .u64 0), .p (.int .i64 x0), .p (.int .i64 x1), v43]) rfl rfl (by decide)
    refine Sim.op (show _ = some [(.agg [.p (.int .i64 r5), .p (.int .u32 0), .p (.int .u32 0), .p (.slice none 0 0), .p (.slice none 0 0), .p (.slice none 0 0), .p (.int .u64 0), .p (.int .i64 x0), .p (.int .i64 x1), v43]), (.p (.bool true))] from by simp only [e56, Option.bind_some, Option.map_some]) ?_
    exact Sim.fin (S55.finN (lv_cons (Stills.lv (dT_api_Report.still (dT_api_Report.mk (SlF.nil dT_api_Tuple) (SlF.nil (dI .u32)) (SlF.nil (dI .i64)) h45))) (lv_cons (still_bool _).lv lv_nil))) ⟨[.p (.int .i64 r5), .p (.int .u32 0), .p (.int .u32 0), .p (.slice none 0 0), .p (.slice none 0 0), .p (.slice none 0 0), .p (.int .u64 0), .p (.int .i64 x0), .p (.int .i64 x1), v43], (show dT_api_Report.R ((⟨r5, 0, 0, (([] : List T_api_Tuple)), (([] : List Int)), (([] : List Int)), 0, x0, x1, r17⟩ : T_api_Report)) [.p (.int .i64 r5), .p (.int .u32 0), .p (.int .u32 0), .p (.slice none 0 0), .p (.slice none 0 0), .p (.slice none 0 0), .p (.int .u64 0), .p (.int .i64 x0), .p (.int .i64 x1), v43] from (dT_api_Report.mk (SlF.nil dT_api_Tuple) (SlF.nil (dI .u32)) (SlF.nil (dI .i64)) h45)), rfl⟩
  · refine Sim.op (bldV (pt_cons hu2.still.cells pt_nil) (by kernel_rfl : _ = some (.agg [u2, .p (.int .i64 0), .p (.bool false)]))) ?_
    obtain ⟨H57, e58, S59⟩ := S16.box (own := false) (d := 27) (s := (2 :: 0 :: 1 :: 1 :: 1 :: 0 :: σ)) (xs := [u2, .p (.int .i64 0), .p (.bool false)]) (stills_cons hu2.still (stills_cons (still_int _ _) (stills_cons (still_bool _) stills_nil))) (by decide) rfl
    refine Sim.op (e58) ?_
    refine Sim.call (rtcp_reader_num_ok k (⟨x2, 0, false⟩ : T_rtcp_reader) hu2 (S59.atG (i := 0) rfl) 4) fun r61 cs62 H63 h64 q65 => ?_
    obtain ⟨v66, h67, q65⟩ := q65
    cases q65
    have S68 := S59.setG (i := 0) (cs' := List.map C.v [v66, (.p (.int .i64 r61.2.f_at)), (.p (.bool r61.2.bad))]) rfl rfl rfl
    refine Sim.op (castI_p _ _) ?_
    refine Sim.op (fA_ref _ _ _) ?_
    obtain ⟨H69, e70, S71⟩ := S68.stG (i := 1) (j := 1) (own := true) (σ := (4 :: 0 :: 1 :: 1 :: 1 :: 1 :: 0 :: σ)) (x := (.p (.int .u32 (IntKind.wrap .u32 r61.1)))) rfl rfl (still_int _ _) rfl
    refine Sim.op (st_map e70) ?_
    refine Sim.op (fA_ref _ _ _) ?_
    refine Sim.op ((S71.atG (i := 1) rfl).ld (j := 0) rfl) ?_
    refine Sim.op (castI_p _ _) ?_
    refine Sim.cd (fun hc => ?_) (fun hc => ?_)
    · refine Sim.call (rtcp_reader_nought_ok k (⟨r61.2.b, r61.2.f_at, r61.2.bad⟩ : T_rtcp_reader) h67 (S71.atG (i := 0) rfl) 4) fun r72 cs73 H74 h75 q76 => ?_
      obtain ⟨v77, h78, q76⟩ := q76
      cases q76
      have S79 := S71.setG (i := 0) (cs' := List.map C.v [v77, (.p (.int .i64 r72.f_at)), (.p (.bool r72.bad))]) rfl rfl rfl
      refine Sim.op (fA_ref _ _ _) ?_
      refine Sim.op ((S79.atG (i := 1) rfl).ld (j := 0) rfl) ?_
      refine Sim.op (castI_p _ _) ?_
      refine Sim.cd (fun hc => ?_) (fun hc => ?_)
      · refine Sim.cd (fun hc => ?_) (fun hc => ?_)
        · refine Sim.as (rtcp_parse_l0_ok ?_ k x2 ((⟨0, 0, 0, (([] : List T_api_Tuple)), (([] : List Int)), (([] : List Int)), 0, 0, 0, (([] : List Int))⟩ : T_api_Report)) ((⟨r5, (IntKind.wrap .u32 r61.1), 0, (([] : List T_api_Tuple)), (([] : List Int)), (([] : List Int)), 0, 0, 0, (([] : List Int))⟩ : T_api_Report)) ((⟨r72.b, r72.f_at, r72.bad⟩ : T_rtcp_reader)) u2 hu2 (.p (.slice none 0 0)) (SlF.nil dT_api_Tuple) (.p (.slice none 0 0)) (SlF.nil (dI .u32)) (.p (.slice none 0 0)) (SlF.nil (dI .i64)) (.p (.slice none 0 0)) (SlF.nil (dI .u8)) (0 :: 0 :: 0 :: σ) (.v (.p (.slice none 0 0))) (SoC.frz (SlF.nil dT_api_Tuple)) (fun v h => by cases h; simp) (.p (.slice none 0 0)) (SlF.nil (dI .u32)) (.p (.slice none 0 0)) (SlF.nil (dI .i64)) (.p (.slice none 0 0)) (SlF.nil (dI .u8)) (4 :: 0 :: 1 :: 0 :: σ) v77 h78 (2 :: 0 :: 1 :: 1 :: 1 :: 0 :: σ) (ptC H69 ⟨h.length, 27, 0, (2 :: 0 :: 1 :: 1 :: 1 :: 0 :: σ), []⟩ 0 (List.map C.v [v77, (.p (.int .i64 r72.f_at)), (.p (.bool r72.bad))])) (S79.wk2 (all_cons (at_mem 2 rfl) (all_cons (at_mem 1 rfl) (all_cons (at_mem 0 rfl) all_nil))) all_nil)) 
          · intro r168_2 yg93 yg104 yg108 v171 h172 v173 h174 v175 h176 v177 h178 v179 h180 s181 c183 h184 h185 v186 h187 v188 h189 v190 h191 s192 v194 h195 s196 H169 S170
            refine Sim.ext (rtcp_parse_a0_1 _ _ _ _ _ _ _ _) ?_
            refine Sim.op (nilChk_ref _ _) ?_
            refine Sim.op (fA_ref _ _ _) ?_
            refine Sim.op ((S170.atG (i := 2) rfl).ld (j := 2) rfl) ?_
            refine Sim.op (asB_p _) ?_
            refine Sim.ch (P := fun r y => r = y) ?_ (fun b198 y199 h200 h201 => ?_)
            · refine Sim.cd (fun hc => ?_) (fun hc => ?_)
              · exact Sim.ret rfl rfl
              · refine Sim.op (fA_ref _ _ _) ?_
                refine Sim.op (h184.ld (S170.atG (i := 1) rfl) (j := 3) rfl) ?_
                refine Sim.op ((h184.sl (S170.atG (i := 1) rfl) (j := 3) rfl).len) ?_
                refine Sim.op (castI_p _ _) ?_
                exact Sim.ret rfl rfl
            subst h201
            refine Sim.op (nilChk_ref _ _) ?_
            refine Sim.op (fA_ref _ _ _) ?_
            obtain ⟨H202, e203, S204⟩ := S170.stG (i := 2) (j := 2) (own := true) (σ := (13 :: 1 :: 1 :: 1 :: 0 :: 1 :: 1 :: 1 :: 1 :: 1 :: 1 :: 0 :: σ)) (x := (.p (.bool b198))) rfl rfl (still_bool _) rfl
            refine Sim.op (st_map e203) ?_
            obtain ⟨v205, h206, h207⟩ := h184.fr
            obtain ⟨w208, H209, h214, e210, e211, e212, S213⟩ := S204.frzV (i := 1) (n := 10) (ys := [(.p (.int .i64 yg104.Kind)), (.p (.int .u32 yg104.From)), (.p (.int .u32 yg104.About)), v205, v186, v188, (.p (.int .u64 yg104.Rate)), (.p (.int .i64 yg104.f_Type)), (.p (.int .i64 yg104.Count)), v190]) rfl rfl ⟨(FrC.v (still_int _ _)), ⟨(FrC.v (still_int _ _)), ⟨(FrC.v (still_int _ _)), ⟨h206, ⟨(FrC.v h187.still), ⟨(FrC.v h189.still), ⟨(FrC.v (still_int _ _)), ⟨(FrC.v (still_int _ _)), ⟨(FrC.v (still_int _ _)), ⟨(FrC.v h191.still), trivial⟩⟩⟩⟩⟩⟩⟩⟩⟩⟩ rfl (by decide)
            refine Sim.op (e210) ?_
            refine Sim.op (nilChk_ref _ _) ?_
            refine Sim.op (fA_ref _ _ _) ?_
            refine Sim.op ((S204.atG (i := 2) rfl).ld (j := 2) rfl) ?_
            refine Sim.op (asB_p _) ?_
            refine Sim.cd (fun hc => ?_) (fun hc => ?_)
            · refine Sim.op (nilChk_ref _ _) ?_
              refine Sim.op (fA_ref _ _ _) ?_
              refine Sim.op ((S204.atG (i := 2) rfl).ld (j := 1) rfl) ?_
              refine Sim.op (castI_p _ _) ?_
              refine Sim.op ((h172.h H202).len) ?_
              refine Sim.op (castI_p _ _) ?_
              refine Sim.op rfl ?_
              obtain ⟨H215, e216, S217⟩ := Fm.stFrz (S0 := S204) (i0 := 0) (i := 0) (j := 0) (n := 10) (σ := (15 :: 0 :: 1 :: 1 :: 1 :: 1 :: 1 :: 1 :: 1 :: 0 :: σ)) S213 rfl e212 rfl rfl h214 rfl rfl
              refine Sim.op (st_map e216) ?_
              refine Sim.nd (rfl) ?_
              refine Sim.nd ((S217.atG (i := 2) rfl).ld (j := 1) rfl) ?_
              have e218 : ldO true 10 H215 (.ref ⟨h.length, 6, 0, s181, []⟩ 0) = some (.agg [.p (.int .i64 yg104.Kind), .p (.int .u32 yg104.From), .p (.int .u32 yg104.About), v205, v186, v188, .p (.int .u64 yg104.Rate), .p (.int .i64 yg104.f_Type), .p (.int .i64 yg104.Count), v190]) := (S217.atG (i := 0) rfl).ldVs (j := 0) (xs := [.p (.int .i64 yg104.Kind), .p (.int .u32 yg104.From), .p (.int .u32 yg104.About), v205, v186, v188, .p (.int .u64 yg104.Rate), .p (.int .i64 yg104.f_Type), .p (.int .i64 yg104.Count), v190]) rfl rfl (by decide)
              refine Sim.op (show _ = some [(.agg [.p (.int .i64 yg104.Kind), .p (.int .u32 yg104.From), .p (.int .u32 yg104.About), v205, v186, v188, .p (.int .u64 yg104.Rate), .p (.int .i64 yg104.f_Type), .p (.int .i64 yg104.Count), v190]), (.p (.bool (yg108.f_at == ((r168_2.length : Int)))))] from by simp only [e218, Option.bind_some, Option.map_some]) ?_
              exact Sim.fin (S217.finN (lv_cons (Stills.lv (dT_api_Report.still (dT_api_Report.mk h207 h187 h189 h191))) (lv_cons (still_bool _).lv lv_nil))) ⟨[.p (.int .i64 yg104.Kind), .p (.int .u32 yg104.From), .p (.int .u32 yg104.About), v205, v186, v188, .p (.int .u64 yg104.Rate), .p (.int .i64 yg104.f_Type), .p (.int .i64 yg104.Count), v190], (show dT_api_Report.R ((⟨yg104.Kind, yg104.From, yg104.About, yg104.Tuples, yg104.Abouts, yg104.Numbers, yg104.Rate, yg104.f_Type, yg104.Count, yg104.Body⟩ : T_api_Report)) [.p (.int .i64 yg104.Kind), .p (.int .u32 yg104.From), .p (.int .u32 yg104.About), v205, v186, v188, .p (.int .u64 yg104.Rate), .p (.int .i64 yg104.f_Type), .p (.int .i64 yg104.Count), v190] from (dT_api_Report.mk h207 h187 h189 h191)), rfl⟩
            · refine Sim.op rfl ?_
              obtain ⟨H219, e220, S221⟩ := Fm.stFrz (S0 := S204) (i0 := 0) (i := 0) (j := 0) (n := 10) (σ := (15 :: 0 :: 1 :: 1 :: 1 :: 1 :: 1 :: 1 :: 1 :: 0 :: σ)) S213 rfl e212 rfl rfl h214 rfl rfl
              refine Sim.op (st_map e220) ?_
              have e222 : ldO true 10 H219 (.ref ⟨h.length, 6, 0, s181, []⟩ 0) = some (.agg [.p (.int .i64 yg104.Kind), .p (.int .u32 yg104.From), .p (.int .u32 yg104.About), v205, v186, v188, .p (.int .u64 yg104.Rate), .p (.int .i64 yg104.f_Type), .p (.int .i64 yg104.Count), v190]) := (S221.atG (i := 0) rfl).ldVs (j := 0) (xs := [.p (.int .i64 yg104.Kind), .p (.int .u32 yg104.From), .p (.int .u32 yg104.About), v205, v186, v188, .p (.int .u64 yg104.Rate), .p (.int .i64 yg104.f_Type), .p (.int .i64 yg104.Count), v190]) rfl rfl (by decide)
              refine Sim.op (show _ = some [(.agg [.p (.int .i64 yg104.Kind), .p (.int .u32 yg104.From), .p (.int .u32 yg104.About), v205, v186, v188, .p (.int .u64 yg104.Rate), .p (.int .i64 yg104.f_Type), .p (.int .i64 yg104.Count), v190]), (.p (.bool false))] from by simp only [e222, Option.bind_some, Option.map_some]) ?_
              exact Sim.fin (S221.finN (lv_cons (Stills.lv (dT_api_Report.still (dT_api_Report.mk h207 h187 h189 h191))) (lv_cons (still_bool _).lv lv_nil))) ⟨[.p (.int .i64 yg104.Kind), .p (.int .u32 yg104.From), .p (.int .u32 yg104.About), v205, v186, v188, .p (.int .u64 yg104.Rate), .p (.int .i64 yg104.f_Type), .p (.int .i64 yg104.Count), v190], (show dT_api_Report.R ((⟨yg104.Kind, yg104.From, yg104.About, yg104.Tuples, yg104.Abouts, yg104.Numbers, yg104.Rate, yg104.f_Type, yg104.Count, yg104.Body⟩ : T_api_Report)) [.p (.int .i64 yg104.Kind), .p (.int .u32 yg104.From), .p (.int .u32 yg104.About), v205, v186, v188, .p (.int .u64 yg104.Rate), .p (.int .i64 yg104.f_Type), .p (.int .i64 yg104.Count), v190] from (dT_api_Report.mk h207 h187 h189 h191)), rfl⟩
        · refine Sim.cd (fun hc => ?_) (fun hc => ?_)
          · refine Sim.call (rtcp_reader_num_ok k (⟨r72.b, r72.f_at, r72.bad⟩ : T_rtcp_reader) h78 (S79.atG (i := 0) rfl) 4) fun r223 cs224 H225 h226 q227 => ?_
            obtain ⟨v228, h229, q227⟩ := q227
            cases q227
            have S230 := S79.setG (i := 0) (cs' := List.map C.v [v228, (.p (.int .i64 r223.2.f_at)), (.p (.bool r223.2.bad))]) rfl rfl rfl
            refine Sim.op (castI_p _ _) ?_
            refine Sim.op (fA_ref _ _ _) ?_
            obtain ⟨H231, e232, S233⟩ := S230.stG (i := 1) (j := 2) (own := true) (σ := (4 :: 1 :: 1 :: 1 :: 0 :: 1 :: 1 :: 1 :: 1 :: 1 :: 1 :: 0 :: σ)) (x := (.p (.int .u32 (IntKind.wrap .u32 r223.1)))) rfl rfl (still_int _ _) rfl
            refine Sim.op (st_map e232) ?_
            refine Sim.op ((S233.atG (i := 1) rfl).ldVs (j := 0) (xs := [.p (.int .i64 r5), .p (.int .u32 (IntKind.wrap .u32 r61.1)), .p (.int .u32 (IntKind.wrap .u32 r223.1)), .p (.slice none 0 0), .p (.slice none 0 0), .p (.slice none 0 0), .p (.int .u64 0), .p (.int .i64 0), .p (.int .i64 0), .p (.slice none 0 0)]) rfl rfl (by decide)) ?_
            refine Sim.op (nilChk_ref _ _) ?_
            refine Sim.op (fA_ref _ _ _) ?_
            refine Sim.op ((S233.atG (i := 0) rfl).ld (j := 2) rfl) ?_
            refine Sim.op (asB_p _) ?_
            refine Sim.cd (fun hc => ?_) (fun hc => ?_)
            · refine Sim.op (nilChk_ref _ _) ?_
              refine Sim.op (fA_ref _ _ _) ?_
              refine Sim.op ((S233.atG (i := 0) rfl).ld (j := 1) rfl) ?_
              refine Sim.op (castI_p _ _) ?_
              refine Sim.op ((hu2.h H231).len) ?_
              refine Sim.op (castI_p _ _) ?_
              refine Sim.op rfl ?_
              obtain ⟨H234, e235, S236⟩ := S233.stGv (i := 2) (j := 0) (own := false) (σ := (15 :: 0 :: 1 :: 1 :: 1 :: 1 :: 1 :: 1 :: 1 :: 0 :: σ)) (xs := [.p (.int .i64 r5), .p (.int .u32 (IntKind.wrap .u32 r61.1)), .p (.int .u32 (IntKind.wrap .u32 r223.1)), .p (.slice none 0 0), .p (.slice none 0 0), .p (.slice none 0 0), .p (.int .u64 0), .p (.int .i64 0), .p (.int .i64 0), .p (.slice none 0 0)]) rfl rfl (stills_cons (still_int _ _) (stills_cons (still_int _ _) (stills_cons (still_int _ _) (stills_cons (SlF.nil dT_api_Tuple).still (stills_cons (SlF.nil (dI .u32)).still (stills_cons (SlF.nil (dI .i64)).still (stills_cons (still_int _ _) (stills_cons (still_int _ _) (stills_cons (still_int _ _) (stills_cons (SlF.nil (dI .u8)).still stills_nil)))))))))) rfl rfl
              refine Sim.op (st_map e235) ?_
              refine Sim.nd (rfl) ?_
              refine Sim.nd ((S236.atG (i := 0) rfl).ld (j := 1) rfl) ?_
              have e237 : ldO true 10 H234 (.ref ⟨h.length, 6, 0, (0 :: 0 :: 0 :: σ), []⟩ 0) = some (.agg [.p (.int .i64 r5), .p (.int .u32 (IntKind.wrap .u32 r61.1)), .p (.int .u32 (IntKind.wrap .u32 r223.1)), .p (.slice none 0 0), .p (.slice none 0 0), .p (.slice none 0 0), .p (.int .u64 0), .p (.int .i64 0), .p (.int .i64 0), .p (.slice none 0 0)]) := (S236.atG (i := 2) rfl).ldVs (j := 0) (xs := [.p (.int .i64 r5), .p (.int .u32 (IntKind.wrap .u32 r61.1)), .p (.int .u32 (IntKind.wrap .u32 r223.1)), .p (.slice none 0 0), .p (.slice none 0 0), .p (.slice none 0 0), .p (.int .u64 0), .p (.int .i64 0), .p (.int .i64 0), .p (.slice none 0 0)]) rfl rfl (by decide)
              refine Sim.op (show _ = some [(.agg [.p (.int .i64 r5), .p (.int .u32 (IntKind.wrap .u32 r61.1)), .p (.int .u32 (IntKind.wrap .u32 r223.1)), .p (.slice none 0 0), .p (.slice none 0 0), .p (.slice none 0 0), .p (.int .u64 0), .p (.int .i64 0), .p (.int .i64 0), .p (.slice none 0 0)]), (.p (.bool (r223.2.f_at == ((x2.length : Int)))))] from by simp only [e237, Option.bind_some, Option.map_some]) ?_
              exact Sim.fin (S236.finN (lv_cons (Stills.lv (dT_api_Report.still (dT_api_Report.mk (SlF.nil dT_api_Tuple) (SlF.nil (dI .u32)) (SlF.nil (dI .i64)) (SlF.nil (dI .u8))))) (lv_cons (still_bool _).lv lv_nil))) ⟨[.p (.int .i64 r5), .p (.int .u32 (IntKind.wrap .u32 r61.1)), .p (.int .u32 (IntKind.wrap .u32 r223.1)), .p (.slice none 0 0), .p (.slice none 0 0), .p (.slice none 0 0), .p (.int .u64 0), .p (.int .i64 0), .p (.int .i64 0), .p (.slice none 0 0)], (show dT_api_Report.R ((⟨r5, (IntKind.wrap .u32 r61.1), (IntKind.wrap .u32 r223.1), (([] : List T_api_Tuple)), (([] : List Int)), (([] : List Int)), 0, 0, 0, (([] : List Int))⟩ : T_api_Report)) [.p (.int .i64 r5), .p (.int .u32 (IntKind.wrap .u32 r61.1)), .p (.int .u32 (IntKind.wrap .u32 r223.1)), .p (.slice none 0 0), .p (.slice none 0 0), .p (.slice none 0 0), .p (.int .u64 0), .p (.int .i64 0), .p (.int .i64 0), .p (.slice none 0 0)] from (dT_api_Report.mk (SlF.nil dT_api_Tuple) (SlF.nil (dI .u32)) (SlF.nil (dI .i64)) (SlF.nil (dI .u8)))), rfl⟩
            · refine Sim.op rfl ?_
              obtain ⟨H238, e239, S240⟩ := S233.stGv (i := 2) (j := 0) (own := false) (σ := (15 :: 0 :: 1 :: 1 :: 1 :: 1 :: 1 :: 1 :: 1 :: 0 :: σ)) (xs := [.p (.int .i64 r5), .p (.int .u32 (IntKind.wrap .u32 r61.1)), .p (.int .u32 (IntKind.wrap .u32 r223.1)), .p (.slice none 0 0), .p (.slice none 0 0), .p (.slice none 0 0), .p (.int .u64 0), .p (.int .i64 0), .p (.int .i64 0), .p (.slice none 0 0)]) rfl rfl (stills_cons (still_int _ _) (stills_cons (still_int _ _) (stills_cons (still_int _ _) (stills_cons (SlF.nil dT_api_Tuple).still (stills_cons (SlF.nil (dI .u32)).still (stills_cons (SlF.nil (dI .i64)).still (stills_cons (still_int _ _) (stills_cons (still_int _ _) (stills_cons (still_int _ _) (stills_cons (SlF.nil (dI .u8)).still stills_nil)))))))))) rfl rfl
              refine Sim.op (st_map e239) ?_
              have e241 : ldO true 10 H238 (.ref ⟨h.length, 6, 0, (0 :: 0 :: 0 :: σ), []⟩ 0) = some (.agg [.p (.int .i64 r5), .p (.int .u32 (IntKind.wrap .u32 r61.1)), .p (.int .u32 (IntKind.wrap .u32 r223.1)), .p (.slice none 0 0), .p (.slice none 0 0), .p (.slice none 0 0), .p (.int .u64 0), .p (.int .i64 0), .p (.int .i64 0), .p (.slice none 0 0)]) := (S240.atG (i := 2) rfl).ldVs (j := 0) (xs := [.p (.int .i64 r5), .p (.int .u32 (IntKind.wrap .u32 r61.1)), .p (.int .u32 (IntKind.wrap .u32 r223.1)), .p (.slice none 0 0), .p (.slice none 0 0), .p (.slice none 0 0), .p (.int .u64 0), .p (.int .i64 0), .p (.int .i64 0), .p (.slice none 0 0)]) rfl rfl (by decide)
              refine Sim.op (show _ = some [(.agg [.p (.int .i64 r5), .p (.int .u32 (IntKind.wrap .u32 r61.1)), .p (.int .u32 (IntKind.wrap .u32 r223.1)), .p (.slice none 0 0), .p (.slice none 0 0), .p (.slice none 0 0), .p (.int .u64 0), .p (.int .i64 0), .p (.int .i64 0), .p (.slice none 0 0)]), (.p (.bool false))] from by simp only [e241, Option.bind_some, Option.map_some]) ?_
              exact Sim.fin (S240.finN (lv_cons (Stills.lv (dT_api_Report.still (dT_api_Report.mk (SlF.nil dT_api_Tuple) (SlF.nil (dI .u32)) (SlF.nil (dI .i64)) (SlF.nil (dI .u8))))) (lv_cons (still_bool _).lv lv_nil))) ⟨[.p (.int .i64 r5), .p (.int .u32 (IntKind.wrap .u32 r61.1)), .p (.int .u32 (IntKind.wrap .u32 r223.1)), .p (.slice none 0 0), .p (.slice none 0 0), .p (.slice none 0 0), .p (.int .u64 0), .p (.int .i64 0), .p (.int .i64 0), .p (.slice none 0 0)], (show dT_api_Report.R ((⟨r5, (IntKind.wrap .u32 r61.1), (IntKind.wrap .u32 r223.1), (([] : List T_api_Tuple)), (([] : List Int)), (([] : List Int)), 0, 0, 0, (([] : List Int))⟩ : T_api_Report)) [.p (.int .i64 r5), .p (.int .u32 (IntKind.wrap .u32 r61.1)), .p (.int .u32 (IntKind.wrap .u32 r223.1)), .p (.slice none 0 0), .p (.slice none 0 0), .p (.slice none 0 0), .p (.int .u64 0), .p (.int .i64 0), .p (.int .i64 0), .p (.slice none 0 0)] from (dT_api_Report.mk (SlF.nil dT_api_Tuple) (SlF.nil (dI .u32)) (SlF.nil (dI .i64)) (SlF.nil (dI .u8)))), rfl⟩
          · refine Sim.cd (fun hc => ?_) (fun hc => ?_)
            · refine Sim.as (rtcp_parse_l1_ok ?_ k x2 ((⟨0, 0, 0, (([] : List T_api_Tuple)), (([] : List Int)), (([] : List Int)), 0, 0, 0, (([] : List Int))⟩ : T_api_Report)) ((⟨r5, (IntKind.wrap .u32 r61.1), 0, (([] : List T_api_Tuple)), (([] : List Int)), (([] : List Int)), 0, 0, 0, (([] : List Int))⟩ : T_api_Report)) ((⟨r72.b, r72.f_at, r72.bad⟩ : T_rtcp_reader)) u2 hu2 (.p (.slice none 0 0)) (SlF.nil dT_api_Tuple) (.p (.slice none 0 0)) (SlF.nil (dI .u32)) (.p (.slice none 0 0)) (SlF.nil (dI .i64)) (.p (.slice none 0 0)) (SlF.nil (dI .u8)) (0 :: 0 :: 0 :: σ) (.p (.slice none 0 0)) (SlF.nil dT_api_Tuple) (.v (.p (.slice none 0 0))) (SoC.frz (SlF.nil (dI .u32))) (fun v h => by cases h; simp) (.v (.p (.slice none 0 0))) (SoC.frz (SlF.nil (dI .i64))) (fun v h => by cases h; simp) (.p (.slice none 0 0)) (SlF.nil (dI .u8)) (4 :: 0 :: 1 :: 0 :: σ) v77 h78 (2 :: 0 :: 1 :: 1 :: 1 :: 0 :: σ) (ptC H69 ⟨h.length, 27, 0, (2 :: 0 :: 1 :: 1 :: 1 :: 0 :: σ), []⟩ 0 (List.map C.v [v77, (.p (.int .i64 r72.f_at)), (.p (.bool r72.bad))])) (S79.wk2 (all_cons (at_mem 2 rfl) (all_cons (at_mem 1 rfl) (all_cons (at_mem 0 rfl) all_nil))) all_nil)) 
              · intro r361_2 yg255 yg267 yg271 v364 h365 v366 h367 v368 h369 v370 h371 v372 h373 s374 v376 h377 c378 h379 h380 c381 h382 h383 v384 h385 s386 v388 h389 s390 H362 S363
                refine Sim.ext (rtcp_parse_a1_3 _ _ _ _ _ _ _ _) ?_
                refine Sim.op (nilChk_ref _ _) ?_
                refine Sim.op (fA_ref _ _ _) ?_
                refine Sim.op ((S363.atG (i := 2) rfl).ld (j := 2) rfl) ?_
                refine Sim.op (asB_p _) ?_
                refine Sim.ch (P := fun r y => r = y) ?_ (fun b392 y393 h394 h395 => ?_)
                · refine Sim.cd (fun hc => ?_) (fun hc => ?_)
                  · exact Sim.ret rfl rfl
                  · refine Sim.op (fA_ref _ _ _) ?_
                    refine Sim.op (h379.ld (S363.atG (i := 1) rfl) (j := 4) rfl) ?_
                    refine Sim.op ((h379.sl (S363.atG (i := 1) rfl) (j := 4) rfl).len) ?_
                    refine Sim.op (castI_p _ _) ?_
                    exact Sim.ret rfl rfl
                subst h395
                refine Sim.ch (P := fun r y => r = y) ?_ (fun b396 y397 h398 h399 => ?_)
                · refine Sim.cd (fun hc => ?_) (fun hc => ?_)
                  · exact Sim.ret rfl rfl
                  · refine Sim.op (fA_ref _ _ _) ?_
                    refine Sim.op (h379.ld (S363.atG (i := 1) rfl) (j := 4) rfl) ?_
                    refine Sim.op ((h379.sl (S363.atG (i := 1) rfl) (j := 4) rfl).len) ?_
                    refine Sim.op (castI_p _ _) ?_
                    exact Sim.ret rfl rfl
                subst h399
                refine Sim.op (nilChk_ref _ _) ?_
                refine Sim.op (fA_ref _ _ _) ?_
                obtain ⟨H400, e401, S402⟩ := S363.stG (i := 2) (j := 2) (own := true) (σ := (19 :: 1 :: 1 :: 1 :: 1 :: 1 :: 0 :: 1 :: 1 :: 1 :: 1 :: 1 :: 1 :: 0 :: σ)) (x := (.p (.bool b396))) rfl rfl (still_bool _) rfl
                refine Sim.op (st_map e401) ?_
                obtain ⟨v403, h404, h405⟩ := h379.fr
                obtain ⟨v406, h407, h408⟩ := h382.fr
                obtain ⟨w409, H410, h415, e411, e412, e413, S414⟩ := S402.frzV (i := 1) (n := 10) (ys := [(.p (.int .i64 yg267.Kind)), (.p (.int .u32 yg267.From)), (.p (.int .u32 yg267.About)), v376, v403, v406, (.p (.int .u64 yg267.Rate)), (.p (.int .i64 yg267.f_Type)), (.p (.int .i64 yg267.Count)), v384]) rfl rfl ⟨(FrC.v (still_int _ _)), ⟨(FrC.v (still_int _ _)), ⟨(FrC.v (still_int _ _)), ⟨(FrC.v h377.still), ⟨h404, ⟨h407, ⟨(FrC.v (still_int _ _)), ⟨(FrC.v (still_int _ _)), ⟨(FrC.v (still_int _ _)), ⟨(FrC.v h385.still), trivial⟩⟩⟩⟩⟩⟩⟩⟩⟩⟩ rfl (by decide)
                refine Sim.op (e411) ?_
                refine Sim.op (nilChk_ref _ _) ?_
                refine Sim.op (fA_ref _ _ _) ?_
                refine Sim.op ((S402.atG (i := 2) rfl).ld (j := 2) rfl) ?_
                refine Sim.op (asB_p _) ?_
                refine Sim.cd (fun hc => ?_) (fun hc => ?_)
                · refine Sim.op (nilChk_ref _ _) ?_
                  refine Sim.op (fA_ref _ _ _) ?_
                  refine Sim.op ((S402.atG (i := 2) rfl).ld (j := 1) rfl) ?_
                  refine Sim.op (castI_p _ _) ?_
                  refine Sim.op ((h365.h H400).len) ?_
                  refine Sim.op (castI_p _ _) ?_
                  refine Sim.op rfl ?_
                  obtain ⟨H416, e417, S418⟩ := Fm.stFrz (S0 := S402) (i0 := 0) (i := 0) (j := 0) (n := 10) (σ := (15 :: 0 :: 1 :: 1 :: 1 :: 1 :: 1 :: 1 :: 1 :: 0 :: σ)) S414 rfl e413 rfl rfl h415 rfl rfl
                  refine Sim.op (st_map e417) ?_
                  refine Sim.nd (rfl) ?_
                  refine Sim.nd ((S418.atG (i := 2) rfl).ld (j := 1) rfl) ?_
                  have e419 : ldO true 10 H416 (.ref ⟨h.length, 6, 0, s374, []⟩ 0) = some (.agg [.p (.int .i64 yg267.Kind), .p (.int .u32 yg267.From), .p (.int .u32 yg267.About), v376, v403, v406, .p (.int .u64 yg267.Rate), .p (.int .i64 yg267.f_Type), .p (.int .i64 yg267.Count), v384]) := (S418.atG (i := 0) rfl).ldVs (j := 0) (xs := [.p (.int .i64 yg267.Kind), .p (.int .u32 yg267.From), .p (.int .u32 yg267.About), v376, v403, v406, .p (.int .u64 yg267.Rate), .p (.int .i64 yg267.f_Type), .p (.int .i64 yg267.Count), v384]) rfl rfl (by decide)
                  refine Sim.op (show _ = some [(.agg [.p (.int .i64 yg267.Kind), .p (.int .u32 yg267.From), .p (.int .u32 yg267.About), v376, v403, v406, .p (.int .u64 yg267.Rate), .p (.int .i64 yg267.f_Type), .p (.int .i64 yg267.Count), v384]), (.p (.bool (yg271.f_at == ((r361_2.length : Int)))))] from by simp only [e419, Option.bind_some, Option.map_some]) ?_
                  exact Sim.fin (S418.finN (lv_cons (Stills.lv (dT_api_Report.still (dT_api_Report.mk h377 h405 h408 h385))) (lv_cons (still_bool _).lv lv_nil))) ⟨[.p (.int .i64 yg267.Kind), .p (.int .u32 yg267.From), .p (.int .u32 yg267.About), v376, v403, v406, .p (.int .u64 yg267.Rate), .p (.int .i64 yg267.f_Type), .p (.int .i64 yg267.Count), v384], (show dT_api_Report.R ((⟨yg267.Kind, yg267.From, yg267.About, yg267.Tuples, yg267.Abouts, yg267.Numbers, yg267.Rate, yg267.f_Type, yg267.Count, yg267.Body⟩ : T_api_Report)) [.p (.int .i64 yg267.Kind), .p (.int .u32 yg267.From), .p (.int .u32 yg267.About), v376, v403, v406, .p (.int .u64 yg267.Rate), .p (.int .i64 yg267.f_Type), .p (.int .i64 yg267.Count), v384] from (dT_api_Report.mk h377 h405 h408 h385)), rfl⟩
                · refine Sim.op rfl ?_
                  obtain ⟨H420, e421, S422⟩ := Fm.stFrz (S0 := S402) (i0 := 0) (i := 0) (j := 0) (n := 10) (σ := (15 :: 0 :: 1 :: 1 :: 1 :: 1 :: 1 :: 1 :: 1 :: 0 :: σ)) S414 rfl e413 rfl rfl h415 rfl rfl
                  refine Sim.op (st_map e421) ?_
                  have e423 : ldO true 10 H420 (.ref ⟨h.length, 6, 0, s374, []⟩ 0) = some (.agg [.p (.int .i64 yg267.Kind), .p (.int .u32 yg267.From), .p (.int .u32 yg267.About), v376, v403, v406, .p (.int .u64 yg267.Rate), .p (.int .i64 yg267.f_Type), .p (.int .i64 yg267.Count), v384]) := (S422.atG (i := 0) rfl).ldVs (j := 0) (xs := [.p (.int .i64 yg267.Kind), .p (.int .u32 yg267.From), .p (.int .u32 yg267.About), v376, v403, v406, .p (.int .u64 yg267.Rate), .p (.int .i64 yg267.f_Type), .p (.int .i64 yg267.Count), v384]) rfl rfl (by decide)
                  refine Sim.op (show _ = some [(.agg [.p (.int .i64 yg267.Kind), .p (.int .u32 yg267.From), .p (.int .u32 yg267.About), v376, v403, v406, .p (.int .u64 yg267.Rate), .p (.int .i64 yg267.f_Type), .p (.int .i64 yg267.Count), v384]), (.p (.bool false))] from by simp only [e423, Option.bind_some, Option.map_some]) ?_
                  exact Sim.fin (S422.finN (lv_cons (Stills.lv (dT_api_Report.still (dT_api_Report.mk h377 h405 h408 h385))) (lv_cons (still_bool _).lv lv_nil))) ⟨[.p (.int .i64 yg267.Kind), .p (.int .u32 yg267.From), .p (.int .u32 yg267.About), v376, v403, v406, .p (.int .u64 yg267.Rate), .p (.int .i64 yg267.f_Type), .p (.int .i64 yg267.Count), v384], (show dT_api_Report.R ((⟨yg267.Kind, yg267.From, yg267.About, yg267.Tuples, yg267.Abouts, yg267.Numbers, yg267.Rate, yg267.f_Type, yg267.Count, yg267.Body⟩ : T_api_Report)) [.p (.int .i64 yg267.Kind), .p (.int .u32 yg267.From), .p (.int .u32 yg267.About), v376, v403, v406, .p (.int .u64 yg267.Rate), .p (.int .i64 yg267.f_Type), .p (.int .i64 yg267.Count), v384] from (dT_api_Report.mk h377 h405 h408 h385)), rfl⟩
            · refine Sim.cd (fun hc => ?_) (fun hc => ?_)
              · refine Sim.call (rtcp_reader_remb_ok k (⟨r72.b, r72.f_at, r72.bad⟩ : T_rtcp_reader) h78 (S79.atG (i := 0) rfl) (⟨r5, (IntKind.wrap .u32 r61.1), 0, (([] : List T_api_Tuple)), (([] : List Int)), (([] : List Int)), 0, 0, 0, (([] : List Int))⟩ : T_api_Report) (SlF.nil dT_api_Tuple) (SoC.frz (SlF.nil (dI .u32))) (fun v h => by cases h; simp) (SlF.nil (dI .i64)) (SlF.nil (dI .u8)) (S79.atG (i := 1) rfl) (by simp [Loc.key])) fun r424 cs425 H426 h427 q428 => ?_
                obtain ⟨v429, v431, c433, v436, v438, h430, h432, h434, h435, h437, h439, q428⟩ := q428
                cases q428
                have S440 := S79.setG (i := 1) (cs' := [.v (.p (.int .i64 r424.2.Kind)), .v (.p (.int .u32 r424.2.From)), .v (.p (.int .u32 r424.2.About)), .v v431, c433, .v v436, .v (.p (.int .u64 r424.2.Rate)), .v (.p (.int .i64 r424.2.f_Type)), .v (.p (.int .i64 r424.2.Count)), .v v438]) rfl rfl rfl
                have S441 := S440.setG (i := 0) (cs' := List.map C.v [v429, (.p (.int .i64 r424.1.f_at)), (.p (.bool r424.1.bad))]) rfl rfl rfl
                obtain ⟨v442, h443, h444⟩ := h434.fr
                obtain ⟨w445, H446, h451, e447, e448, e449, S450⟩ := S441.frzV (i := 1) (n := 10) (ys := [(.p (.int .i64 r424.2.Kind)), (.p (.int .u32 r424.2.From)), (.p (.int .u32 r424.2.About)), v431, v442, v436, (.p (.int .u64 r424.2.Rate)), (.p (.int .i64 r424.2.f_Type)), (.p (.int .i64 r424.2.Count)), v438]) rfl rfl ⟨(FrC.v (still_int _ _)), ⟨(FrC.v (still_int _ _)), ⟨(FrC.v (still_int _ _)), ⟨(FrC.v h432.still), ⟨h443, ⟨(FrC.v h437.still), ⟨(FrC.v (still_int _ _)), ⟨(FrC.v (still_int _ _)), ⟨(FrC.v (still_int _ _)), ⟨(FrC.v h439.still), trivial⟩⟩⟩⟩⟩⟩⟩⟩⟩⟩ rfl (by decide)
                refine Sim.op (e447) ?_
                refine Sim.op (nilChk_ref _ _) ?_
                refine Sim.op (fA_ref _ _ _) ?_
                refine Sim.op ((S441.atG (i := 0) rfl).ld (j := 2) rfl) ?_
                refine Sim.op (asB_p _) ?_
                refine Sim.cd (fun hc => ?_) (fun hc => ?_)
                · refine Sim.op (nilChk_ref _ _) ?_
                  refine Sim.op (fA_ref _ _ _) ?_
                  refine Sim.op ((S441.atG (i := 0) rfl).ld (j := 1) rfl) ?_
                  refine Sim.op (castI_p _ _) ?_
                  refine Sim.op ((hu2.h (ptC (ptC (ptC H69 ⟨h.length, 27, 0, (2 :: 0 :: 1 :: 1 :: 1 :: 0 :: σ), []⟩ 0 (List.map C.v [v77, (.p (.int .i64 r72.f_at)), (.p (.bool r72.bad))])) ⟨h.length, 8, 0, (4 :: 0 :: 1 :: 0 :: σ), []⟩ 0 ([.v (.p (.int .i64 r424.2.Kind)), .v (.p (.int .u32 r424.2.From)), .v (.p (.int .u32 r424.2.About)), .v v431, c433, .v v436, .v (.p (.int .u64 r424.2.Rate)), .v (.p (.int .i64 r424.2.f_Type)), .v (.p (.int .i64 r424.2.Count)), .v v438])) ⟨h.length, 27, 0, (2 :: 0 :: 1 :: 1 :: 1 :: 0 :: σ), []⟩ 0 (List.map C.v [v429, (.p (.int .i64 r424.1.f_at)), (.p (.bool r424.1.bad))]))).len) ?_
                  refine Sim.op (castI_p _ _) ?_
                  refine Sim.op rfl ?_
                  obtain ⟨H452, e453, S454⟩ := Fm.stFrz (S0 := S441) (i0 := 2) (i := 2) (j := 0) (n := 10) (σ := (15 :: 0 :: 1 :: 1 :: 1 :: 1 :: 1 :: 1 :: 1 :: 0 :: σ)) S450 rfl e449 rfl rfl h451 rfl rfl
                  refine Sim.op (st_map e453) ?_
                  refine Sim.nd (rfl) ?_
                  refine Sim.nd ((S454.atG (i := 0) rfl).ld (j := 1) rfl) ?_
                  have e455 : ldO true 10 H452 (.ref ⟨h.length, 6, 0, (0 :: 0 :: 0 :: σ), []⟩ 0) = some (.agg [.p (.int .i64 r424.2.Kind), .p (.int .u32 r424.2.From), .p (.int .u32 r424.2.About), v431, v442, v436, .p (.int .u64 r424.2.Rate), .p (.int .i64 r424.2.f_Type), .p (.int .i64 r424.2.Count), v438]) := (S454.atG (i := 2) rfl).ldVs (j := 0) (xs := [.p (.int .i64 r424.2.Kind), .p (.int .u32 r424.2.From), .p (.int .u32 r424.2.About), v431, v442, v436, .p (.int .u64 r424.2.Rate), .p (.int .i64 r424.2.f_Type), .p (.int .i64 r424.2.Count), v438]) rfl rfl (by decide)
                  refine Sim.op (show _ = some [(.agg [.p (.int .i64 r424.2.Kind), .p (.int .u32 r424.2.From), .p (.int .u32 r424.2.About), v431, v442, v436, .p (.int .u64 r424.2.Rate), .p (.int .i64 r424.2.f_Type), .p (.int .i64 r424.2.Count), v438]), (.p (.bool (r424.1.f_at == ((x2.length : Int)))))] from by simp only [e455, Option.bind_some, Option.map_some]) ?_
                  exact Sim.fin (S454.finN (lv_cons (Stills.lv (dT_api_Report.still (dT_api_Report.mk h432 h444 h437 h439))) (lv_cons (still_bool _).lv lv_nil))) ⟨[.p (.int .i64 r424.2.Kind), .p (.int .u32 r424.2.From), .p (.int .u32 r424.2.About), v431, v442, v436, .p (.int .u64 r424.2.Rate), .p (.int .i64 r424.2.f_Type), .p (.int .i64 r424.2.Count), v438], (show dT_api_Report.R ((⟨r424.2.Kind, r424.2.From, r424.2.About, r424.2.Tuples, r424.2.Abouts, r424.2.Numbers, r424.2.Rate, r424.2.f_Type, r424.2.Count, r424.2.Body⟩ : T_api_Report)) [.p (.int .i64 r424.2.Kind), .p (.int .u32 r424.2.From), .p (.int .u32 r424.2.About), v431, v442, v436, .p (.int .u64 r424.2.Rate), .p (.int .i64 r424.2.f_Type), .p (.int .i64 r424.2.Count), v438] from (dT_api_Report.mk h432 h444 h437 h439)), rfl⟩
                · refine Sim.op rfl ?_
                  obtain ⟨H456, e457, S458⟩ := Fm.stFrz (S0 := S441) (i0 := 2) (i := 2) (j := 0) (n := 10) (σ := (15 :: 0 :: 1 :: 1 :: 1 :: 1 :: 1 :: 1 :: 1 :: 0 :: σ)) S450 rfl e449 rfl rfl h451 rfl rfl
                  refine Sim.op (st_map e457) ?_
                  have e459 : ldO true 10 H456 (.ref ⟨h.length, 6, 0, (0 :: 0 :: 0 :: σ), []⟩ 0) = some (.agg [.p (.int .i64 r424.2.Kind), .p (.int .u32 r424.2.From), .p (.int .u32 r424.2.About), v431, v442, v436, .p (.int .u64 r424.2.Rate), .p (.int .i64 r424.2.f_Type), .p (.int .i64 r424.2.Count), v438]) := (S458.atG (i := 2) rfl).ldVs (j := 0) (xs := [.p (.int .i64 r424.2.Kind), .p (.int .u32 r424.2.From), .p (.int .u32 r424.2.About), v431, v442, v436, .p (.int .u64 r424.2.Rate), .p (.int .i64 r424.2.f_Type), .p (.int .i64 r424.2.Count), v438]) rfl rfl (by decide)
                  refine Sim.op (show _ = some [(.agg [.p (.int .i64 r424.2.Kind), .p (.int .u32 r424.2.From), .p (.int .u32 r424.2.About), v431, v442, v436, .p (.int .u64 r424.2.Rate), .p (.int .i64 r424.2.f_Type), .p (.int .i64 r424.2.Count), v438]), (.p (.bool false))] from by simp only [e459, Option.bind_some, Option.map_some]) ?_
                  exact Sim.fin (S458.finN (lv_cons (Stills.lv (dT_api_Report.still (dT_api_Report.mk h432 h444 h437 h439))) (lv_cons (still_bool _).lv lv_nil))) ⟨[.p (.int .i64 r424.2.Kind), .p (.int .u32 r424.2.From), .p (.int .u32 r424.2.About), v431, v442, v436, .p (.int .u64 r424.2.Rate), .p (.int .i64 r424.2.f_Type), .p (.int .i64 r424.2.Count), v438], (show dT_api_Report.R ((⟨r424.2.Kind, r424.2.From, r424.2.About, r424.2.Tuples, r424.2.Abouts, r424.2.Numbers, r424.2.Rate, r424.2.f_Type, r424.2.Count, r424.2.Body⟩ : T_api_Report)) [.p (.int .i64 r424.2.Kind), .p (.int .u32 r424.2.From), .p (.int .u32 r424.2.About), v431, v442, v436, .p (.int .u64 r424.2.Rate), .p (.int .i64 r424.2.f_Type), .p (.int .i64 r424.2.Count), v438] from (dT_api_Report.mk h432 h444 h437 h439)), rfl⟩
              · refine Sim.op ((S79.atG (i := 1) rfl).ldVs (j := 0) (xs := [.p (.int .i64 r5), .p (.int .u32 (IntKind.wrap .u32 r61.1)), .p (.int .u32 0), .p (.slice none 0 0), .p (.slice none 0 0), .p (.slice none 0 0), .p (.int .u64 0), .p (.int .i64 0), .p (.int .i64 0), .p (.slice none 0 0)]) rfl rfl (by decide)) ?_
                refine Sim.op (nilChk_ref _ _) ?_
                refine Sim.op (fA_ref _ _ _) ?_
                refine Sim.op ((S79.atG (i := 0) rfl).ld (j := 2) rfl) ?_
                refine Sim.op (asB_p _) ?_
                refine Sim.cd (fun hc => ?_) (fun hc => ?_)
                · refine Sim.op (nilChk_ref _ _) ?_
                  refine Sim.op (fA_ref _ _ _) ?_
                  refine Sim.op ((S79.atG (i := 0) rfl).ld (j := 1) rfl) ?_
                  refine Sim.op (castI_p _ _) ?_
                  refine Sim.op ((hu2.h (ptC H69 ⟨h.length, 27, 0, (2 :: 0 :: 1 :: 1 :: 1 :: 0 :: σ), []⟩ 0 (List.map C.v [v77, (.p (.int .i64 r72.f_at)), (.p (.bool r72.bad))]))).len) ?_
                  refine Sim.op (castI_p _ _) ?_
                  refine Sim.op rfl ?_
                  obtain ⟨H460, e461, S462⟩ := S79.stGv (i := 2) (j := 0) (own := false) (σ := (15 :: 0 :: 1 :: 1 :: 1 :: 1 :: 1 :: 1 :: 1 :: 0 :: σ)) (xs := [.p (.int .i64 r5), .p (.int .u32 (IntKind.wrap .u32 r61.1)), .p (.int .u32 0), .p (.slice none 0 0), .p (.slice none 0 0), .p (.slice none 0 0), .p (.int .u64 0), .p (.int .i64 0), .p (.int .i64 0), .p (.slice none 0 0)]) rfl rfl (stills_cons (still_int _ _) (stills_cons (still_int _ _) (stills_cons (still_int _ _) (stills_cons (SlF.nil dT_api_Tuple).still (stills_cons (SlF.nil (dI .u32)).still (stills_cons (SlF.nil (dI .i64)).still (stills_cons (still_int _ _) (stills_cons (still_int _ _) (stills_cons (still_int _ _) (stills_cons (SlF.nil (dI .u8)).still stills_nil)))))))))) rfl rfl
                  refine Sim.op (st_map e461) ?_
                  refine Sim.nd (rfl) ?_
                  refine Sim.nd ((S462.atG (i := 0) rfl).ld (j := 1) rfl) ?_
                  have e463 : ldO true 10 H460 (.ref ⟨h.length, 6, 0, (0 :: 0 :: 0 :: σ), []⟩ 0) = some (.agg [.p (.int .i64 r5), .p (.int .u32 (IntKind.wrap .u32 r61.1)), .p (.int .u32 0), .p (.slice none 0 0), .p (.slice none 0 0), .p (.slice none 0 0), .p (.int .u64 0), .p (.int .i64 0), .p (.int .i64 0), .p (.slice none 0 0)]) := (S462.atG (i := 2) rfl).ldVs (j := 0) (xs := [.p (.int .i64 r5), .p (.int .u32 (IntKind.wrap .u32 r61.1)), .p (.int .u32 0), .p (.slice none 0 0), .p (.slice none 0 0), .p (.slice none 0 0), .p (.int .u64 0), .p (.int .i64 0), .p (.int .i64 0), .p (.slice none 0 0)]) rfl rfl (by decide)
                  refine Sim.op (show _ = some [(.agg [.p (.int .i64 r5), .p (.int .u32 (IntKind.wrap .u32 r61.1)), .p (.int .u32 0), .p (.slice none 0 0), .p (.slice none 0 0), .p (.slice none 0 0), .p (.int .u64 0), .p (.int .i64 0), .p (.int .i64 0), .p (.slice none 0 0)]), (.p (.bool (r72.f_at == ((x2.length : Int)))))] from by simp only [e463, Option.bind_some, Option.map_some]) ?_
                  exact Sim.fin (S462.finN (lv_cons (Stills.lv (dT_api_Report.still (dT_api_Report.mk (SlF.nil dT_api_Tuple) (SlF.nil (dI .u32)) (SlF.nil (dI .i64)) (SlF.nil (dI .u8))))) (lv_cons (still_bool _).lv lv_nil))) ⟨[.p (.int .i64 r5), .p (.int .u32 (IntKind.wrap .u32 r61.1)), .p (.int .u32 0), .p (.slice none 0 0), .p (.slice none 0 0), .p (.slice none 0 0), .p (.int .u64 0), .p (.int .i64 0), .p (.int .i64 0), .p (.slice none 0 0)], (show dT_api_Report.R ((⟨r5, (IntKind.wrap .u32 r61.1), 0, (([] : List T_api_Tuple)), (([] : List Int)), (([] : List Int)), 0, 0, 0, (([] : List Int))⟩ : T_api_Report)) [.p (.int .i64 r5), .p (.int .u32 (IntKind.wrap .u32 r61.1)), .p (.int .u32 0), .p (.slice none 0 0), .p (.slice none 0 0), .p (.slice none 0 0), .p (.int .u64 0), .p (.int .i64 0), .p (.int .i64 0), .p (.slice none 0 0)] from (dT_api_Report.mk (SlF.nil dT_api_Tuple) (SlF.nil (dI .u32)) (SlF.nil (dI .i64)) (SlF.nil (dI .u8)))), rfl⟩
                · refine Sim.op rfl ?_
                  obtain ⟨H464, e465, S466⟩ := S79.stGv (i := 2) (j := 0) (own := false) (σ := (15 :: 0 :: 1 :: 1 :: 1 :: 1 :: 1 :: 1 :: 1 :: 0 :: σ)) (xs := [.p (.int .i64 r5), .p (.int .u32 (IntKind.wrap .u32 r61.1)), .p (.int .u32 0), .p (.slice none 0 0), .p (.slice none 0 0), .p (.slice none 0 0), .p (.int .u64 0), .p (.int .i64 0), .p (.int .i64 0), .p (.slice none 0 0)]) rfl rfl (stills_cons (still_int _ _) (stills_cons (still_int _ _) (stills_cons (still_int _ _) (stills_cons (SlF.nil dT_api_Tuple).still (stills_cons (SlF.nil (dI .u32)).still (stills_cons (SlF.nil (dI .i64)).still (stills_cons (still_int _ _) (stills_cons (still_int _ _) (stills_cons (still_int _ _) (stills_cons (SlF.nil (dI .u8)).still stills_nil)))))))))) rfl rfl
                  refine Sim.op (st_map e465) ?_
                  have e467 : ldO true 10 H464 (.ref ⟨h.length, 6, 0, (0 :: 0 :: 0 :: σ), []⟩ 0) = some (.agg [.p (.int .i64 r5), .p (.int .u32 (IntKind.wrap .u32 r61.1)), .p (.int .u32 0), .p (.slice none 0 0), .p (.slice none 0 0), .p (.slice none 0 0), .p (.int .u64 0), .p (.int .i64 0), .p (.int .i64 0), .p (.slice none 0 0)]) := (S466.atG (i := 2) rfl).ldVs (j := 0) (xs := [.p (.int .i64 r5), .p (.int .u32 (IntKind.wrap .u32 r61.1)), .p (.int .u32 0), .p (.slice none 0 0), .p (.slice none 0 0), .p (.slice none 0 0), .p (.int .u64 0), .p (.int .i64 0), .p (.int .i64 0), .p (.slice none 0 0)]) rfl rfl (by decide)
                  refine Sim.op (show _ = some [(.agg [.p (.int .i64 r5), .p (.int .u32 (IntKind.wrap .u32 r61.1)), .p (.int .u32 0), .p (.slice none 0 0), .p (.slice none 0 0), .p (.slice none 0 0), .p (.int .u64 0), .p (.int .i64 0), .p (.int .i64 0), .p (.slice none 0 0)]), (.p (.bool false))] from by simp only [e467, Option.bind_some, Option.map_some]) ?_
                  exact Sim.fin (S466.finN (lv_cons (Stills.lv (dT_api_Report.still (dT_api_Report.mk (SlF.nil dT_api_Tuple) (SlF.nil (dI .u32)) (SlF.nil (dI .i64)) (SlF.nil (dI .u8))))) (lv_cons (still_bool _).lv lv_nil))) ⟨[.p (.int .i64 r5), .p (.int .u32 (IntKind.wrap .u32 r61.1)), .p (.int .u32 0), .p (.slice none 0 0), .p (.slice none 0 0), .p (.slice none 0 0), .p (.int .u64 0), .p (.int .i64 0), .p (.int .i64 0), .p (.slice none 0 0)], (show dT_api_Report.R ((⟨r5, (IntKind.wrap .u32 r61.1), 0, (([] : List T_api_Tuple)), (([] : List Int)), (([] : List Int)), 0, 0, 0, (([] : List Int))⟩ : T_api_Report)) [.p (.int .i64 r5), .p (.int .u32 (IntKind.wrap .u32 r61.1)), .p (.int .u32 0), .p (.slice none 0 0), .p (.slice none 0 0), .p (.slice none 0 0), .p (.int .u64 0), .p (.int .i64 0), .p (.int .i64 0), .p (.slice none 0 0)] from (dT_api_Report.mk (SlF.nil dT_api_Tuple) (SlF.nil (dI .u32)) (SlF.nil (dI .i64)) (SlF.nil (dI .u8)))), rfl⟩
      · refine Sim.cd (fun hc => ?_) (fun hc => ?_)
        · refine Sim.as (rtcp_parse_l0_ok ?_ k x2 ((⟨0, 0, 0, (([] : List T_api_Tuple)), (([] : List Int)), (([] : List Int)), 0, 0, 0, (([] : List Int))⟩ : T_api_Report)) ((⟨r5, (IntKind.wrap .u32 r61.1), 0, (([] : List T_api_Tuple)), (([] : List Int)), (([] : List Int)), 0, 0, 0, (([] : List Int))⟩ : T_api_Report)) ((⟨r72.b, r72.f_at, r72.bad⟩ : T_rtcp_reader)) u2 hu2 (.p (.slice none 0 0)) (SlF.nil dT_api_Tuple) (.p (.slice none 0 0)) (SlF.nil (dI .u32)) (.p (.slice none 0 0)) (SlF.nil (dI .i64)) (.p (.slice none 0 0)) (SlF.nil (dI .u8)) (0 :: 0 :: 0 :: σ) (.v (.p (.slice none 0 0))) (SoC.frz (SlF.nil dT_api_Tuple)) (fun v h => by cases h; simp) (.p (.slice none 0 0)) (SlF.nil (dI .u32)) (.p (.slice none 0 0)) (SlF.nil (dI .i64)) (.p (.slice none 0 0)) (SlF.nil (dI .u8)) (4 :: 0 :: 1 :: 0 :: σ) v77 h78 (2 :: 0 :: 1 :: 1 :: 1 :: 0 :: σ) (ptC H69 ⟨h.length, 27, 0, (2 :: 0 :: 1 :: 1 :: 1 :: 0 :: σ), []⟩ 0 (List.map C.v [v77, (.p (.int .i64 r72.f_at)), (.p (.bool r72.bad))])) (S79.wk2 (all_cons (at_mem 2 rfl) (all_cons (at_mem 1 rfl) (all_cons (at_mem 0 rfl) all_nil))) all_nil)) 
          · intro r468_2 yg93 yg104 yg108 v471 h472 v473 h474 v475 h476 v477 h478 v479 h480 s481 c483 h484 h485 v486 h487 v488 h489 v490 h491 s492 v494 h495 s496 H469 S470
            refine Sim.ext (rtcp_parse_a0_1 _ _ _ _ _ _ _ _) ?_
            refine Sim.op (nilChk_ref _ _) ?_
            refine Sim.op (fA_ref _ _ _) ?_
            refine Sim.op ((S470.atG (i := 2) rfl).ld (j := 2) rfl) ?_
            refine Sim.op (asB_p _) ?_
            refine Sim.ch (P := fun r y => r = y) ?_ (fun b498 y499 h500 h501 => ?_)
            · refine Sim.cd (fun hc => ?_) (fun hc => ?_)
              · exact Sim.ret rfl rfl
              · refine Sim.op (fA_ref _ _ _) ?_
                refine Sim.op (h484.ld (S470.atG (i := 1) rfl) (j := 3) rfl) ?_
                refine Sim.op ((h484.sl (S470.atG (i := 1) rfl) (j := 3) rfl).len) ?_
                refine Sim.op (castI_p _ _) ?_
                exact Sim.ret rfl rfl
            subst h501
            refine Sim.op (nilChk_ref _ _) ?_
            refine Sim.op (fA_ref _ _ _) ?_
            obtain ⟨H502, e503, S504⟩ := S470.stG (i := 2) (j := 2) (own := true) (σ := (13 :: 1 :: 1 :: 1 :: 0 :: 1 :: 1 :: 1 :: 1 :: 1 :: 1 :: 0 :: σ)) (x := (.p (.bool b498))) rfl rfl (still_bool _) rfl
            refine Sim.op (st_map e503) ?_
            obtain ⟨v505, h506, h507⟩ := h484.fr
            obtain ⟨w508, H509, h514, e510, e511, e512, S513⟩ := S504.frzV (i := 1) (n := 10) (ys := [(.p (.int .i64 yg104.Kind)), (.p (.int .u32 yg104.From)), (.p (.int .u32 yg104.About)), v505, v486, v488, (.p (.int .u64 yg104.Rate)), (.p (.int .i64 yg104.f_Type)), (.p (.int .i64 yg104.Count)), v490]) rfl rfl ⟨(FrC.v (still_int _ _)), ⟨(FrC.v (still_int _ _)), ⟨(FrC.v (still_int _ _)), ⟨h506, ⟨(FrC.v h487.still), ⟨(FrC.v h489.still), ⟨(FrC.v (still_int _ _)), ⟨(FrC.v (still_int _ _)), ⟨(FrC.v (still_int _ _)), ⟨(FrC.v h491.still), trivial⟩⟩⟩⟩⟩⟩⟩⟩⟩⟩ rfl (by decide)
            refine Sim.op (e510) ?_
            refine Sim.op (nilChk_ref _ _) ?_
            refine Sim.op (fA_ref _ _ _) ?_
            refine Sim.op ((S504.atG (i := 2) rfl).ld (j := 2) rfl) ?_
            refine Sim.op (asB_p _) ?_
            refine Sim.cd (fun hc => ?_) (fun hc => ?_)
            · refine Sim.op (nilChk_ref _ _) ?_
              refine Sim.op (fA_ref _ _ _) ?_
              refine Sim.op ((S504.atG (i := 2) rfl).ld (j := 1) rfl) ?_
              refine Sim.op (castI_p _ _) ?_
              refine Sim.op ((h472.h H502).len) ?_
              refine Sim.op (castI_p _ _) ?_
              refine Sim.op rfl ?_
              obtain ⟨H515, e516, S517⟩ := Fm.stFrz (S0 := S504) (i0 := 0) (i := 0) (j := 0) (n := 10) (σ := (15 :: 0 :: 1 :: 1 :: 1 :: 1 :: 1 :: 1 :: 1 :: 0 :: σ)) S513 rfl e512 rfl rfl h514 rfl rfl
              refine Sim.op (st_map e516) ?_
              refine Sim.nd (rfl) ?_
              refine Sim.nd ((S517.atG (i := 2) rfl).ld (j := 1) rfl) ?_
              have e518 : ldO true 10 H515 (.ref ⟨h.length, 6, 0, s481, []⟩ 0) = some (.agg [.p (.int .i64 yg104.Kind), .p (.int .u32 yg104.From), .p (.int .u32 yg104.About), v505, v486, v488, .p (.int .u64 yg104.Rate), .p (.int .i64 yg104.f_Type), .p (.int .i64 yg104.Count), v490]) := (S517.atG (i := 0) rfl).ldVs (j := 0) (xs := [.p (.int .i64 yg104.Kind), .p (.int .u32 yg104.From), .p (.int .u32 yg104.About), v505, v486, v488, .p (.int .u64 yg104.Rate), .p (.int .i64 yg104.f_Type), .p (.int .i64 yg104.Count), v490]) rfl rfl (by decide)
              refine Sim.op (show _ = some [(.agg [.p (.int .i64 yg104.Kind), .p (.int .u32 yg104.From), .p (.int .u32 yg104.About), v505, v486, v488, .p (.int .u64 yg104.Rate), .p (.int .i64 yg104.f_Type), .p (.int .i64 yg104.Count), v490]), (.p (.bool (yg108.f_at == ((r468_2.length : Int)))))] from by simp only [e518, Option.bind_some, Option.map_some]) ?_
              exact Sim.fin (S517.finN (lv_cons (Stills.lv (dT_api_Report.still (dT_api_Report.mk h507 h487 h489 h491))) (lv_cons (still_bool _).lv lv_nil))) ⟨[.p (.int .i64 yg104.Kind), .p (.int .u32 yg104.From), .p (.int .u32 yg104.About), v505, v486, v488, .p (.int .u64 yg104.Rate), .p (.int .i64 yg104.f_Type), .p (.int .i64 yg104.Count), v490], (show dT_api_Report.R ((⟨yg104.Kind, yg104.From, yg104.About, yg104.Tuples, yg104.Abouts, yg104.Numbers, yg104.Rate, yg104.f_Type, yg104.Count, yg104.Body⟩ : T_api_Report)) [.p (.int .i64 yg104.Kind), .p (.int .u32 yg104.From), .p (.int .u32 yg104.About), v505, v486, v488, .p (.int .u64 yg104.Rate), .p (.int .i64 yg104.f_Type), .p (.int .i64 yg104.Count), v490] from (dT_api_Report.mk h507 h487 h489 h491)), rfl⟩
            · refine Sim.op rfl ?_
              obtain ⟨H519, e520, S521⟩ := Fm.stFrz (S0 := S504) (i0 := 0) (i := 0) (j := 0) (n := 10) (σ := (15 :: 0 :: 1 :: 1 :: 1 :: 1 :: 1 :: 1 :: 1 :: 0 :: σ)) S513 rfl e512 rfl rfl h514 rfl rfl
              refine Sim.op (st_map e520) ?_
              have e522 : ldO true 10 H519 (.ref ⟨h.length, 6, 0, s481, []⟩ 0) = some (.agg [.p (.int .i64 yg104.Kind), .p (.int .u32 yg104.From), .p (.int .u32 yg104.About), v505, v486, v488, .p (.int .u64 yg104.Rate), .p (.int .i64 yg104.f_Type), .p (.int .i64 yg104.Count), v490]) := (S521.atG (i := 0) rfl).ldVs (j := 0) (xs := [.p (.int .i64 yg104.Kind), .p (.int .u32 yg104.From), .p (.int .u32 yg104.About), v505, v486, v488, .p (.int .u64 yg104.Rate), .p (.int .i64 yg104.f_Type), .p (.int .i64 yg104.Count), v490]) rfl rfl (by decide)
              refine Sim.op (show _ = some [(.agg [.p (.int .i64 yg104.Kind), .p (.int .u32 yg104.From), .p (.int .u32 yg104.About), v505, v486, v488, .p (.int .u64 yg104.Rate), .p (.int .i64 yg104.f_Type), .p (.int .i64 yg104.Count), v490]), (.p (.bool false))] from by simp only [e522, Option.bind_some, Option.map_some]) ?_
              exact Sim.fin (S521.finN (lv_cons (Stills.lv (dT_api_Report.still (dT_api_Report.mk h507 h487 h489 h491))) (lv_cons (still_bool _).lv lv_nil))) ⟨[.p (.int .i64 yg104.Kind), .p (.int .u32 yg104.From), .p (.int .u32 yg104.About), v505, v486, v488, .p (.int .u64 yg104.Rate), .p (.int .i64 yg104.f_Type), .p (.int .i64 yg104.Count), v490], (show dT_api_Report.R ((⟨yg104.Kind, yg104.From, yg104.About, yg104.Tuples, yg104.Abouts, yg104.Numbers, yg104.Rate, yg104.f_Type, yg104.Count, yg104.Body⟩ : T_api_Report)) [.p (.int .i64 yg104.Kind), .p (.int .u32 yg104.From), .p (.int .u32 yg104.About), v505, v486, v488, .p (.int .u64 yg104.Rate), .p (.int .i64 yg104.f_Type), .p (.int .i64 yg104.Count), v490] from (dT_api_Report.mk h507 h487 h489 h491)), rfl⟩
        · refine Sim.cd (fun hc => ?_) (fun hc => ?_)
          · refine Sim.call (rtcp_reader_num_ok k (⟨r72.b, r72.f_at, r72.bad⟩ : T_rtcp_reader) h78 (S79.atG (i := 0) rfl) 4) fun r523 cs524 H525 h526 q527 => ?_
            obtain ⟨v528, h529, q527⟩ := q527
            cases q527
            have S530 := S79.setG (i := 0) (cs' := List.map C.v [v528, (.p (.int .i64 r523.2.f_at)), (.p (.bool r523.2.bad))]) rfl rfl rfl
            refine Sim.op (castI_p _ _) ?_
            refine Sim.op (fA_ref _ _ _) ?_
            obtain ⟨H531, e532, S533⟩ := S530.stG (i := 1) (j := 2) (own := true) (σ := (4 :: 1 :: 1 :: 1 :: 0 :: 1 :: 1 :: 1 :: 1 :: 1 :: 1 :: 0 :: σ)) (x := (.p (.int .u32 (IntKind.wrap .u32 r523.1)))) rfl rfl (still_int _ _) rfl
            refine Sim.op (st_map e532) ?_
            refine Sim.op ((S533.atG (i := 1) rfl).ldVs (j := 0) (xs := [.p (.int .i64 r5), .p (.int .u32 (IntKind.wrap .u32 r61.1)), .p (.int .u32 (IntKind.wrap .u32 r523.1)), .p (.slice none 0 0), .p (.slice none 0 0), .p (.slice none 0 0), .p (.int .u64 0), .p (.int .i64 0), .p (.int .i64 0), .p (.slice none 0 0)]) rfl rfl (by decide)) ?_
            refine Sim.op (nilChk_ref _ _) ?_
            refine Sim.op (fA_ref _ _ _) ?_
            refine Sim.op ((S533.atG (i := 0) rfl).ld (j := 2) rfl) ?_
            refine Sim.op (asB_p _) ?_
            refine Sim.cd (fun hc => ?_) (fun hc => ?_)
            · refine Sim.op (nilChk_ref _ _) ?_
              refine Sim.op (fA_ref _ _ _) ?_
              refine Sim.op ((S533.atG (i := 0) rfl).ld (j := 1) rfl) ?_
              refine Sim.op (castI_p _ _) ?_
              refine Sim.op ((hu2.h H531).len) ?_
              refine Sim.op (castI_p _ _) ?_
              refine Sim.op rfl ?_
              obtain ⟨H534, e535, S536⟩ := S533.stGv (i := 2) (j := 0) (own := false) (σ := (15 :: 0 :: 1 :: 1 :: 1 :: 1 :: 1 :: 1 :: 1 :: 0 :: σ)) (xs := [.p (.int .i64 r5), .p (.int .u32 (IntKind.wrap .u32 r61.1)), .p (.int .u32 (IntKind.wrap .u32 r523.1)), .p (.slice none 0 0), .p (.slice none 0 0), .p (.slice none 0 0), .p (.int .u64 0), .p (.int .i64 0), .p (.int .i64 0), .p (.slice none 0 0)]) rfl rfl (stills_cons (still_int _ _) (stills_cons (still_int _ _) (stills_cons (still_int _ _) (stills_cons (SlF.nil dT_api_Tuple).still (stills_cons (SlF.nil (dI .u32)).still (stills_cons (SlF.nil (dI .i64)).still (stills_cons (still_int _ _) (stills_cons (still_int _ _) (stills_cons (still_int _ _) (stills_cons (SlF.nil (dI .u8)).still stills_nil)))))))))) rfl rfl
              refine Sim.op (st_map e535) ?_
              refine Sim.nd (rfl) ?_
              refine Sim.nd ((S536.atG (i := 0) rfl).ld (j := 1) rfl) ?_
              have e537 : ldO true 10 H534 (.ref ⟨h.length, 6, 0, (0 :: 0 :: 0 :: σ), []⟩ 0) = some (.agg [.p (.int .i64 r5), .p (.int .u32 (IntKind.wrap .u32 r61.1)), .p (.int .u32 (IntKind.wrap .u32 r523.1)), .p (.slice none 0 0), .p (.slice none 0 0), .p (.slice none 0 0), .p (.int .u64 0), .p (.int .i64 0), .p (.int .i64 0), .p (.slice none 0 0)]) := (S536.atG (i := 2) rfl).ldVs (j := 0) (xs := [.p (.int .i64 r5), .p (.int .u32 (IntKind.wrap .u32 r61.1)), .p (.int .u32 (IntKind.wrap .u32 r523.1)), .p (.slice none 0 0), .p (.slice none 0 0), .p (.slice none 0 0), .p (.int .u64 0), .p (.int .i64 0), .p (.int .i64 0), .p (.slice none 0 0)]) rfl rfl (by decide)
              refine Sim.op (show _ = some [(.agg [.p (.int .i64 r5), .p (.int .u32 (IntKind.wrap .u32 r61.1)), .p (.int .u32 (IntKind.wrap .u32 r523.1)), .p (.slice none 0 0), .p (.slice none 0 0), .p (.slice none 0 0), .p (.int .u64 0), .p (.int .i64 0), .p (.int .i64 0), .p (.slice none 0 0)]), (.p (.bool (r523.2.f_at == ((x2.length : Int)))))] from by simp only [e537, Option.bind_some, Option.map_some]) ?_
              exact Sim.fin (S536.finN (lv_cons (Stills.lv (dT_api_Report.still (dT_api_Report.mk (SlF.nil dT_api_Tuple) (SlF.nil (dI .u32)) (SlF.nil (dI .i64)) (SlF.nil (dI .u8))))) (lv_cons (still_bool _).lv lv_nil))) ⟨[.p (.int .i64 r5), .p (.int .u32 (IntKind.wrap .u32 r61.1)), .p (.int .u32 (IntKind.wrap .u32 r523.1)), .p (.slice none 0 0), .p (.slice none 0 0), .p (.slice none 0 0), .p (.int .u64 0), .p (.int .i64 0), .p (.int .i64 0), .p (.slice none 0 0)], (show dT_api_Report.R ((⟨r5, (IntKind.wrap .u32 r61.1), (IntKind.wrap .u32 r523.1), (([] : List T_api_Tuple)), (([] : List Int)), (([] : List Int)), 0, 0, 0, (([] : List Int))⟩ : T_api_Report)) [.p (.int .i64 r5), .p (.int .u32 (IntKind.wrap .u32 r61.1)), .p (.int .u32 (IntKind.wrap .u32 r523.1)), .p (.slice none 0 0), .p (.slice none 0 0), .p (.slice none 0 0), .p (.int .u64 0), .p (.int .i64 0), .p (.int .i64 0), .p (.slice none 0 0)] from (dT_api_Report.mk (SlF.nil dT_api_Tuple) (SlF.nil (dI .u32)) (SlF.nil (dI .i64)) (SlF.nil (dI .u8)))), rfl⟩
            · refine Sim.op rfl ?_
              obtain ⟨H538, e539, S540⟩ := S533.stGv (i := 2) (j := 0) (own := false) (σ := (15 :: 0 :: 1 :: 1 :: 1 :: 1 :: 1 :: 1 :: 1 :: 0 :: σ)) (xs := [.p (.int .i64 r5), .p (.int .u32 (IntKind.wrap .u32 r61.1)), .p (.int .u32 (IntKind.wrap .u32 r523.1)), .p (.slice none 0 0), .p (.slice none 0 0), .p (.slice none 0 0), .p (.int .u64 0), .p (.int .i64 0), .p (.int .i64 0), .p (.slice none 0 0)]) rfl rfl (stills_cons (still_int _ _) (stills_cons (still_int _ _) (stills_cons (still_int _ _) (stills_cons (SlF.nil dT_api_Tuple).still (stills_cons (SlF.nil (dI .u32)).still (stills_cons (SlF.nil (dI .i64)).still (stills_cons (still_int _ _) (stills_cons (still_int _ _) (stills_cons (still_int _ _) (stills_cons (SlF.nil (dI .u8)).still stills_nil)))))))))) rfl rfl
              refine Sim.op (st_map e539) ?_
              have e541 : ldO true 10 H538 (.ref ⟨h.length, 6, 0, (0 :: 0 :: 0 :: σ), []⟩ 0) = some (.agg [.p (.int .i64 r5), .p (.int .u32 (IntKind.wrap .u32 r61.1)), .p (.int .u32 (IntKind.wrap .u32 r523.1)), .p (.slice none 0 0), .p (.slice none 0 0), .p (.slice none 0 0), .p (.int .u64 0), .p (.int .i64 0), .p (.int .i64 0), .p (.slice none 0 0)]) := (S540.atG (i := 2) rfl).ldVs (j := 0) (xs := [.p (.int .i64 r5), .p (.int .u32 (IntKind.wrap .u32 r61.1)), .p (.int .u32 (IntKind.wrap .u32 r523.1)), .p (.slice none 0 0), .p (.slice none 0 0), .p (.slice none 0 0), .p (.int .u64 0), .p (.int .i64 0), .p (.int .i64 0), .p (.slice none 0 0)]) rfl rfl (by decide)
              refine Sim.op (show _ = some [(.agg [.p (.int .i64 r5), .p (.int .u32 (IntKind.wrap .u32 r61.1)), .p (.int .u32 (IntKind.wrap .u32 r523.1)), .p (.slice none 0 0), .p (.slice none 0 0), .p (.slice none 0 0), .p (.int .u64 0), .p (.int .i64 0), .p (.int .i64 0), .p (.slice none 0 0)]), (.p (.bool false))] from by simp only [e541, Option.bind_some, Option.map_some]) ?_
              exact Sim.fin (S540.finN (lv_cons (Stills.lv (dT_api_Report.still (dT_api_Report.mk (SlF.nil dT_api_Tuple) (SlF.nil (dI .u32)) (SlF.nil (dI .i64)) (SlF.nil (dI .u8))))) (lv_cons (still_bool _).lv lv_nil))) ⟨[.p (.int .i64 r5), .p (.int .u32 (IntKind.wrap .u32 r61.1)), .p (.int .u32 (IntKind.wrap .u32 r523.1)), .p (.slice none 0 0), .p (.slice none 0 0), .p (.slice none 0 0), .p (.int .u64 0), .p (.int .i64 0), .p (.int .i64 0), .p (.slice none 0 0)], (show dT_api_Report.R ((⟨r5, (IntKind.wrap .u32 r61.1), (IntKind.wrap .u32 r523.1), (([] : List T_api_Tuple)), (([] : List Int)), (([] : List Int)), 0, 0, 0, (([] : List Int))⟩ : T_api_Report)) [.p (.int .i64 r5), .p (.int .u32 (IntKind.wrap .u32 r61.1)), .p (.int .u32 (IntKind.wrap .u32 r523.1)), .p (.slice none 0 0), .p (.slice none 0 0), .p (.slice none 0 0), .p (.int .u64 0), .p (.int .i64 0), .p (.int .i64 0), .p (.slice none 0 0)] from (dT_api_Report.mk (SlF.nil dT_api_Tuple) (SlF.nil (dI .u32)) (SlF.nil (dI .i64)) (SlF.nil (dI .u8)))), rfl⟩
          · refine Sim.cd (fun hc => ?_) (fun hc => ?_)
            · refine Sim.as (rtcp_parse_l1_ok ?_ k x2 ((⟨0, 0, 0, (([] : List T_api_Tuple)), (([] : List Int)), (([] : List Int)), 0, 0, 0, (([] : List Int))⟩ : T_api_Report)) ((⟨r5, (IntKind.wrap .u32 r61.1), 0, (([] : List T_api_Tuple)), (([] : List Int)), (([] : List Int)), 0, 0, 0, (([] : List Int))⟩ : T_api_Report)) ((⟨r72.b, r72.f_at, r72.bad⟩ : T_rtcp_reader)) u2 hu2 (.p (.slice none 0 0)) (SlF.nil dT_api_Tuple) (.p (.slice none 0 0)) (SlF.nil (dI .u32)) (.p (.slice none 0 0)) (SlF.nil (dI .i64)) (.p (.slice none 0 0)) (SlF.nil (dI .u8)) (0 :: 0 :: 0 :: σ) (.p (.slice none 0 0)) (SlF.nil dT_api_Tuple) (.v (.p (.slice none 0 0))) (SoC.frz (SlF.nil (dI .u32))) (fun v h => by cases h; simp) (.v (.p (.slice none 0 0))) (SoC.frz (SlF.nil (dI .i64))) (fun v h => by cases h; simp) (.p (.slice none 0 0)) (SlF.nil (dI .u8)) (4 :: 0 :: 1 :: 0 :: σ) v77 h78 (2 :: 0 :: 1 :: 1 :: 1 :: 0 :: σ) (ptC H69 ⟨h.length, 27, 0, (2 :: 0 :: 1 :: 1 :: 1 :: 0 :: σ), []⟩ 0 (List.map C.v [v77, (.p (.int .i64 r72.f_at)), (.p (.bool r72.bad))])) (S79.wk2 (all_cons (at_mem 2 rfl) (all_cons (at_mem 1 rfl) (all_cons (at_mem 0 rfl) all_nil))) all_nil)) 
              · intro r542_2 yg255 yg267 yg271 v545 h546 v547 h548 v549 h550 v551 h552 v553 h554 s555 v557 h558 c559 h560 h561 c562 h563 h564 v565 h566 s567 v569 h570 s571 H543 S544
                refine Sim.ext (rtcp_parse_a1_3 _ _ _ _ _ _ _ _) ?_
                refine Sim.op (nilChk_ref _ _) ?_
                refine Sim.op (fA_ref _ _ _) ?_
                refine Sim.op ((S544.atG (i := 2) rfl).ld (j := 2) rfl) ?_
                refine Sim.op (asB_p _) ?_
                refine Sim.ch (P := fun r y => r = y) ?_ (fun b573 y574 h575 h576 => ?_)
                · refine Sim.cd (fun hc => ?_) (fun hc => ?_)
                  · exact Sim.ret rfl rfl
                  · refine Sim.op (fA_ref _ _ _) ?_
                    refine Sim.op (h560.ld (S544.atG (i := 1) rfl) (j := 4) rfl) ?_
                    refine Sim.op ((h560.sl (S544.atG (i := 1) rfl) (j := 4) rfl).len) ?_
                    refine Sim.op (castI_p _ _) ?_
                    exact Sim.ret rfl rfl
                subst h576
                refine Sim.ch (P := fun r y => r = y) ?_ (fun b577 y578 h579 h580 => ?_)
                · refine Sim.cd (fun hc => ?_) (fun hc => ?_)
                  · exact Sim.ret rfl rfl
                  · refine Sim.op (fA_ref _ _ _) ?_
                    refine Sim.op (h560.ld (S544.atG (i := 1) rfl) (j := 4) rfl) ?_
                    refine Sim.op ((h560.sl (S544.atG (i := 1) rfl) (j := 4) rfl).len) ?_
                    refine Sim.op (castI_p _ _) ?_
                    exact Sim.ret rfl rfl
                subst h580
                refine Sim.op (nilChk_ref _ _) ?_
                refine Sim.op (fA_ref _ _ _) ?_
                obtain ⟨H581, e582, S583⟩ := S544.stG (i := 2) (j := 2) (own := true) (σ := (19 :: 1 :: 1 :: 1 :: 1 :: 1 :: 0 :: 1 :: 1 :: 1 :: 1 :: 1 :: 1 :: 0 :: σ)) (x := (.p (.bool b577))) rfl rfl (still_bool _) rfl
                refine Sim.op (st_map e582) ?_
                obtain ⟨v584, h585, h586⟩ := h560.fr
                obtain ⟨v587, h588, h589⟩ := h563.fr
                obtain ⟨w590, H591, h596, e592, e593, e594, S595⟩ := S583.frzV (i := 1) (n := 10) (ys := [(.p (.int .i64 yg267.Kind)), (.p (.int .u32 yg267.From)), (.p (.int .u32 yg267.About)), v557, v584, v587, (.p (.int .u64 yg267.Rate)), (.p (.int .i64 yg267.f_Type)), (.p (.int .i64 yg267.Count)), v565]) rfl rfl ⟨(FrC.v (still_int _ _)), ⟨(FrC.v (still_int _ _)), ⟨(FrC.v (still_int _ _)), ⟨(FrC.v h558.still), ⟨h585, ⟨h588, ⟨(FrC.v (still_int _ _)), ⟨(FrC.v (still_int _ _)), ⟨(FrC.v (still_int _ _)), ⟨(FrC.v h566.still), trivial⟩⟩⟩⟩⟩⟩⟩⟩⟩⟩ rfl (by decide)
                refine Sim.op (e592) ?_
                refine Sim.op (nilChk_ref _ _) ?_
                refine Sim.op (fA_ref _ _ _) ?_
                refine Sim.op ((S583.atG (i := 2) rfl).ld (j := 2) rfl) ?_
                refine Sim.op (asB_p _) ?_
                refine Sim.cd (fun hc => ?_) (fun hc => ?_)
                · refine Sim.op (nilChk_ref _ _) ?_
                  refine Sim.op (fA_ref _ _ _) ?_
                  refine Sim.op ((S583.atG (i := 2) rfl).ld (j := 1) rfl) ?_
                  refine Sim.op (castI_p _ _) ?_
                  refine Sim.op ((h546.h H581).len) ?_
                  refine Sim.op (castI_p _ _) ?_
                  refine Sim.op rfl ?_
                  obtain ⟨H597, e598, S599⟩ := Fm.stFrz (S0 := S583) (i0 := 0) (i := 0) (j := 0) (n := 10) (σ := (15 :: 0 :: 1 :: 1 :: 1 :: 1 :: 1 :: 1 :: 1 :: 0 :: σ)) S595 rfl e594 rfl rfl h596 rfl rfl
                  refine Sim.op (st_map e598) ?_
                  refine Sim.nd (rfl) ?_
                  refine Sim.nd ((S599.atG (i := 2) rfl).ld (j := 1) rfl) ?_
                  have e600 : ldO true 10 H597 (.ref ⟨h.length, 6, 0, s555, []⟩ 0) = some (.agg [.p (.int .i64 yg267.Kind), .p (.int .u32 yg267.From), .p (.int .u32 yg267.About), v557, v584, v587, .p (.int .u64 yg267.Rate), .p (.int .i64 yg267.f_Type), .p (.int .i64 yg267.Count), v565]) := (S599.atG (i := 0) rfl).ldVs (j := 0) (xs := [.p (.int .i64 yg267.Kind), .p (.int .u32 yg267.From), .p (.int .u32 yg267.About), v557, v584, v587, .p (.int .u64 yg267.Rate), .p (.int .i64 yg267.f_Type), .p (.int .i64 yg267.Count), v565]) rfl rfl (by decide)
                  refine Sim.op (show _ = some [(.agg [.p (.int .i64 yg267.Kind), .p (.int .u32 yg267.From), .p (.int .u32 yg267.About), v557, v584, v587, .p (.int .u64 yg267.Rate), .p (.int .i64 yg267.f_Type), .p (.int .i64 yg267.Count), v565]), (.p (.bool (yg271.f_at == ((r542_2.length : Int)))))] from by simp only [e600, Option.bind_some, Option.map_some]) ?_
                  exact Sim.fin (S599.finN (lv_cons (Stills.lv (dT_api_Report.still (dT_api_Report.mk h558 h586 h589 h566))) (lv_cons (still_bool _).lv lv_nil))) ⟨[.p (.int .i64 yg267.Kind), .p (.int .u32 yg267.From), .p (.int .u32 yg267.About), v557, v584, v587, .p (.int .u64 yg267.Rate), .p (.int .i64 yg267.f_Type), .p (.int .i64 yg267.Count), v565], (show dT_api_Report.R ((⟨yg267.Kind, yg267.From, yg267.About, yg267.Tuples, yg267.Abouts, yg267.Numbers, yg267.Rate, yg267.f_Type, yg267.Count, yg267.Body⟩ : T_api_Report)) [.p (.int .i64 yg267.Kind), .p (.int .u32 yg267.From), .p (.int .u32 yg267.About), v557, v584, v587, .p (.int .u64 yg267.Rate), .p (.int .i64 yg267.f_Type), .p (.int .i64 yg267.Count), v565] from (dT_api_Report.mk h558 h586 h589 h566)), rfl⟩
                · refine Sim.op rfl ?_
                  obtain ⟨H601, e602, S603⟩ := Fm.stFrz (S0 := S583) (i0 := 0) (i := 0) (j := 0) (n := 10) (σ := (15 :: 0 :: 1 :: 1 :: 1 :: 1 :: 1 :: 1 :: 1 :: 0 :: σ)) S595 rfl e594 rfl rfl h596 rfl rfl
                  refine Sim.op (st_map e602) ?_
                  have e604 : ldO true 10 H601 (.ref ⟨h.length, 6, 0, s555, []⟩ 0) = some (.agg [.p (.int .i64 yg267.Kind), .p (.int .u32 yg267.From), .p (.int .u32 yg267.About), v557, v584, v587, .p (.int .u64 yg267.Rate), .p (.int .i64 yg267.f_Type), .p (.int .i64 yg267.Count), v565]) := (S603.atG (i := 0) rfl).ldVs (j := 0) (xs := [.p (.int .i64 yg267.Kind), .p (.int .u32 yg267.From), .p (.int .u32 yg267.About), v557, v584, v587, .p (.int .u64 yg267.Rate), .p (.int .i64 yg267.f_Type), .p (.int .i64 yg267.Count), v565]) rfl rfl (by decide)
                  refine Sim.op (show _ = some [(.agg [.p (.int .i64 yg267.Kind), .p (.int .u32 yg267.From), .p (.int .u32 yg267.About), v557, v584, v587, .p (.int .u64 yg267.Rate), .p (.int .i64 yg267.f_Type), .p (.int .i64 yg267.Count), v565]), (.p (.bool false))] from by simp only [e604, Option.bind_some, Option.map_some]) ?_
                  exact Sim.fin (S603.finN (lv_cons (Stills.lv (dT_api_Report.still (dT_api_Report.mk h558 h586 h589 h566))) (lv_cons (still_bool _).lv lv_nil))) ⟨[.p (.int .i64 yg267.Kind), .p (.int .u32 yg267.From), .p (.int .u32 yg267.About), v557, v584, v587, .p (.int .u64 yg267.Rate), .p (.int .i64 yg267.f_Type), .p (.int .i64 yg267.Count), v565], (show dT_api_Report.R ((⟨yg267.Kind, yg267.From, yg267.About, yg267.Tuples, yg267.Abouts, yg267.Numbers, yg267.Rate, yg267.f_Type, yg267.Count, yg267.Body⟩ : T_api_Report)) [.p (.int .i64 yg267.Kind), .p (.int .u32 yg267.From), .p (.int .u32 yg267.About), v557, v584, v587, .p (.int .u64 yg267.Rate), .p (.int .i64 yg267.f_Type), .p (.int .i64 yg267.Count), v565] from (dT_api_Report.mk h558 h586 h589 h566)), rfl⟩
            · refine Sim.cd (fun hc => ?_) (fun hc => ?_)
              · refine Sim.call (rtcp_reader_remb_ok k (⟨r72.b, r72.f_at, r72.bad⟩ : T_rtcp_reader) h78 (S79.atG (i := 0) rfl) (⟨r5, (IntKind.wrap .u32 r61.1), 0, (([] : List T_api_Tuple)), (([] : List Int)), (([] : List Int)), 0, 0, 0, (([] : List Int))⟩ : T_api_Report) (SlF.nil dT_api_Tuple) (SoC.frz (SlF.nil (dI .u32))) (fun v h => by cases h; simp) (SlF.nil (dI .i64)) (SlF.nil (dI .u8)) (S79.atG (i := 1) rfl) (by simp [Loc.key])) fun r605 cs606 H607 h608 q609 => ?_
                obtain ⟨v610, v612, c614, v617, v619, h611, h613, h615, h616, h618, h620, q609⟩ := q609
                cases q609
                have S621 := S79.setG (i := 1) (cs' := [.v (.p (.int .i64 r605.2.Kind)), .v (.p (.int .u32 r605.2.From)), .v (.p (.int .u32 r605.2.About)), .v v612, c614, .v v617, .v (.p (.int .u64 r605.2.Rate)), .v (.p (.int .i64 r605.2.f_Type)), .v (.p (.int .i64 r605.2.Count)), .v v619]) rfl rfl rfl
                have S622 := S621.setG (i := 0) (cs' := List.map C.v [v610, (.p (.int .i64 r605.1.f_at)), (.p (.bool r605.1.bad))]) rfl rfl rfl
                obtain ⟨v623, h624, h625⟩ := h615.fr
                obtain ⟨w626, H627, h632, e628, e629, e630, S631⟩ := S622.frzV (i := 1) (n := 10) (ys := [(.p (.int .i64 r605.2.Kind)), (.p (.int .u32 r605.2.From)), (.p (.int .u32 r605.2.About)), v612, v623, v617, (.p (.int .u64 r605.2.Rate)), (.p (.int .i64 r605.2.f_Type)), (.p (.int .i64 r605.2.Count)), v619]) rfl rfl ⟨(FrC.v (still_int _ _)), ⟨(FrC.v (still_int _ _)), ⟨(FrC.v (still_int _ _)), ⟨(FrC.v h613.still), ⟨h624, ⟨(FrC.v h618.still), ⟨(FrC.v (still_int _ _)), ⟨(FrC.v (still_int _ _)), ⟨(FrC.v (still_int _ _)), ⟨(FrC.v h620.still), trivial⟩⟩⟩⟩⟩⟩⟩⟩⟩⟩ rfl (by decide)
                refine Sim.op (e628) ?_
                refine Sim.op (nilChk_ref _ _) ?_
                refine Sim.op (fA_ref _ _ _) ?_
                refine Sim.op ((S622.atG (i := 0) rfl).ld (j := 2) rfl) ?_
                refine Sim.op (asB_p _) ?_
                refine Sim.cd (fun hc => ?_) (fun hc => ?_)
                · refine Sim.op (nilChk_ref _ _) ?_
                  refine Sim.op (fA_ref _ _ _) ?_
                  refine Sim.op ((S622.atG (i := 0) rfl).ld (j := 1) rfl) ?_
                  refine Sim.op (castI_p _ _) ?_
                  refine Sim.op ((hu2.h (ptC (ptC (ptC H69 ⟨h.length, 27, 0, (2 :: 0 :: 1 :: 1 :: 1 :: 0 :: σ), []⟩ 0 (List.map C.v [v77, (.p (.int .i64 r72.f_at)), (.p (.bool r72.bad))])) ⟨h.length, 8, 0, (4 :: 0 :: 1 :: 0 :: σ), []⟩ 0 ([.v (.p (.int .i64 r605.2.Kind)), .v (.p (.int .u32 r605.2.From)), .v (.p (.int .u32 r605.2.About)), .v v612, c614, .v v617, .v (.p (.int .u64 r605.2.Rate)), .v (.p (.int .i64 r605.2.f_Type)), .v (.p (.int .i64 r605.2.Count)), .v v619])) ⟨h.length, 27, 0, (2 :: 0 :: 1 :: 1 :: 1 :: 0 :: σ), []⟩ 0 (List.map C.v [v610, (.p (.int .i64 r605.1.f_at)), (.p (.bool r605.1.bad))]))).len) ?_
                  refine Sim.op (castI_p _ _) ?_
                  refine Sim.op rfl ?_
                  obtain ⟨H633, e634, S635⟩ := Fm.stFrz (S0 := S622) (i0 := 2) (i := 2) (j := 0) (n := 10) (σ := (15 :: 0 :: 1 :: 1 :: 1 :: 1 :: 1 :: 1 :: 1 :: 0 :: σ)) S631 rfl e630 rfl rfl h632 rfl rfl
                  refine Sim.op (st_map e634) ?_
                  refine Sim.nd (rfl) ?_
                  refine Sim.nd ((S635.atG (i := 0) rfl).ld (j := 1) rfl) ?_
                  have e636 : ldO true 10 H633 (.ref ⟨h.length, 6, 0, (0 :: 0 :: 0 :: σ), []⟩ 0) = some (.agg [.p (.int .i64 r605.2.Kind), .p (.int .u32 r605.2.From), .p (.int .u32 r605.2.About), v612, v623, v617, .p (.int .u64 r605.2.Rate), .p (.int .i64 r605.2.f_Type), .p (.int .i64 r605.2.Count), v619]) := (S635.atG (i := 2) rfl).ldVs (j := 0) (xs := [.p (.int .i64 r605.2.Kind), .p (.int .u32 r605.2.From), .p (.int .u32 r605.2.About), v612, v623, v617, .p (.int .u64 r605.2.Rate), .p (.int .i64 r605.2.f_Type), .p (.int .i64 r605.2.Count), v619]) rfl rfl (by decide)
                  refine Sim.op (show _ = some [(.agg [.p (.int .i64 r605.2.Kind), .p (.int .u32 r605.2.From), .p (.int .u32 r605.2.About), v612, v623, v617, .p (.int .u64 r605.2.Rate), .p (.int .i64 r605.2.f_Type), .p (.int .i64 r605.2.Count), v619]), (.p (.bool (r605.1.f_at == ((x2.length : Int)))))] from by simp only [e636, Option.bind_some, Option.map_some]) ?_
                  exact Sim.fin (S635.finN (lv_cons (Stills.lv (dT_api_Report.still (dT_api_Report.mk h613 h625 h618 h620))) (lv_cons (still_bool _).lv lv_nil))) ⟨[.p (.int .i64 r605.2.Kind), .p (.int .u32 r605.2.From), .p (.int .u32 r605.2.About), v612, v623, v617, .p (.int .u64 r605.2.Rate), .p (.int .i64 r605.2.f_Type), .p (.int .i64 r605.2.Count), v619], (show dT_api_Report.R ((⟨r605.2.Kind, r605.2.From, r605.2.About, r605.2.Tuples, r605.2.Abouts, r605.2.Numbers, r605.2.Rate, r605.2.f_Type, r605.2.Count, r605.2.Body⟩ : T_api_Report)) [.p (.int .i64 r605.2.Kind), .p (.int .u32 r605.2.From), .p (.int .u32 r605.2.About), v612, v623, v617, .p (.int .u64 r605.2.Rate), .p (.int .i64 r605.2.f_Type), .p (.int .i64 r605.2.Count), v619] from (dT_api_Report.mk h613 h625 h618 h620)), rfl⟩
                · refine Sim.op rfl ?_
                  obtain ⟨H637, e638, S639⟩ := Fm.stFrz (S0 := S622) (i0 := 2) (i := 2) (j := 0) (n := 10) (σ := (15 :: 0 :: 1 :: 1 :: 1 :: 1 :: 1 :: 1 :: 1 :: 0 :: σ)) S631 rfl e630 rfl rfl h632 rfl rfl
                  refine Sim.op (st_map e638) ?_
                  have e640 : ldO true 10 H637 (.ref ⟨h.length, 6, 0, (0 :: 0 :: 0 :: σ), []⟩ 0) = some (.agg [.p (.int .i64 r605.2.Kind), .p (.int .u32 r605.2.From), .p (.int .u32 r605.2.About), v612, v623, v617, .p (.int .u64 r605.2.Rate), .p (.int .i64 r605.2.f_Type), .p (.int .i64 r605.2.Count), v619]) := (S639.atG (i := 2) rfl).ldVs (j := 0) (xs := [.p (.int .i64 r605.2.Kind), .p (.int .u32 r605.2.From), .p (.int .u32 r605.2.About), v612, v623, v617, .p (.int .u64 r605.2.Rate), .p (.int .i64 r605.2.f_Type), .p (.int .i64 r605.2.Count), v619]) rfl rfl (by decide)
                  refine Sim.op (show _ = some [(.agg [.p (.int .i64 r605.2.Kind), .p (.int .u32 r605.2.From), .p (.int .u32 r605.2.About), v612, v623, v617, .p (.int .u64 r605.2.Rate), .p (.int .i64 r605.2.f_Type), .p (.int .i64 r605.2.Count), v619]), (.p (.bool false))] from by simp only [e640, Option.bind_some, Option.map_some]) ?_
                  exact Sim.fin (S639.finN (lv_cons (Stills.lv (dT_api_Report.still (dT_api_Report.mk h613 h625 h618 h620))) (lv_cons (still_bool _).lv lv_nil))) ⟨[.p (.int .i64 r605.2.Kind), .p (.int .u32 r605.2.From), .p (.int .u32 r605.2.About), v612, v623, v617, .p (.int .u64 r605.2.Rate), .p (.int .i64 r605.2.f_Type), .p (.int .i64 r605.2.Count), v619], (show dT_api_Report.R ((⟨r605.2.Kind, r605.2.From, r605.2.About, r605.2.Tuples, r605.2.Abouts, r605.2.Numbers, r605.2.Rate, r605.2.f_Type, r605.2.Count, r605.2.Body⟩ : T_api_Report)) [.p (.int .i64 r605.2.Kind), .p (.int .u32 r605.2.From), .p (.int .u32 r605.2.About), v612, v623, v617, .p (.int .u64 r605.2.Rate), .p (.int .i64 r605.2.f_Type), .p (.int .i64 r605.2.Count), v619] from (dT_api_Report.mk h613 h625 h618 h620)), rfl⟩
              · refine Sim.op ((S79.atG (i := 1) rfl).ldVs (j := 0) (xs := [.p (.int .i64 r5), .p (.int .u32 (IntKind.wrap .u32 r61.1)), .p (.int .u32 0), .p (.slice none 0 0), .p (.slice none 0 0), .p (.slice none 0 0), .p (.int .u64 0), .p (.int .i64 0), .p (.int .i64 0), .p (.slice none 0 0)]) rfl rfl (by decide)) ?_
                refine Sim.op (nilChk_ref _ _) ?_
                refine Sim.op (fA_ref _ _ _) ?_
                refine Sim.op ((S79.atG (i := 0) rfl).ld (j := 2) rfl) ?_
                refine Sim.op (asB_p _) ?_
                refine Sim.cd (fun hc => ?_) (fun hc => ?_)
                · refine Sim.op (nilChk_ref _ _) ?_
                  refine Sim.op (fA_ref _ _ _) ?_
                  refine Sim.op ((S79.atG (i := 0) rfl).ld (j := 1) rfl) ?_
                  refine Sim.op (castI_p _ _) ?_
                  refine Sim.op ((hu2.h (ptC H69 ⟨h.length, 27, 0, (2 :: 0 :: 1 :: 1 :: 1 :: 0 :: σ), []⟩ 0 (List.map C.v [v77, (.p (.int .i64 r72.f_at)), (.p (.bool r72.bad))]))).len) ?_
                  refine Sim.op (castI_p _ _) ?_
                  refine Sim.op rfl ?_
                  obtain ⟨H641, e642, S643⟩ := S79.stGv (i := 2) (j := 0) (own := false) (σ := (15 :: 0 :: 1 :: 1 :: 1 :: 1 :: 1 :: 1 :: 1 :: 0 :: σ)) (xs := [.p (.int .i64 r5), .p (.int .u32 (IntKind.wrap .u32 r61.1)), .p (.int .u32 0), .p (.slice none 0 0), .p (.slice none 0 0), .p (.slice none 0 0), .p (.int .u64 0), .p (.int .i64 0), .p (.int .i64 0), .p (.slice none 0 0)]) rfl rfl (stills_cons (still_int _ _) (stills_cons (still_int _ _) (stills_cons (still_int _ _) (stills_cons (SlF.nil dT_api_Tuple).still (stills_cons (SlF.nil (dI .u32)).still (stills_cons (SlF.nil (dI .i64)).still (stills_cons (still_int _ _) (stills_cons (still_int _ _) (stills_cons (still_int _ _) (stills_cons (SlF.nil (dI .u8)).still stills_nil)))))))))) rfl rfl
                  refine Sim.op (st_map e642) ?_
                  refine Sim.nd (rfl) ?_
                  refine Sim.nd ((S643.atG (i := 0) rfl).ld (j := 1) rfl) ?_
                  have e644 : ldO true 10 H641 (.ref ⟨h.length, 6, 0, (0 :: 0 :: 0 :: σ), []⟩ 0) = some (.agg [.p (.int .i64 r5), .p (.int .u32 (IntKind.wrap .u32 r61.1)), .p (.int .u32 0), .p (.slice none 0 0), .p (.slice none 0 0), .p (.slice none 0 0), .p (.int .u64 0), .p (.int .i64 0), .p (.int .i64 0), .p (.slice none 0 0)]) := (S643.atG (i := 2) rfl).ldVs (j := 0) (xs := [.p (.int .i64 r5), .p (.int .u32 (IntKind.wrap .u32 r61.1)), .p (.int .u32 0), .p (.slice none 0 0), .p (.slice none 0 0), .p (.slice none 0 0), .p (.int .u64 0), .p (.int .i64 0), .p (.int .i64 0), .p (.slice none 0 0)]) rfl rfl (by decide)
                  refine Sim.op (show _ = some [(.agg [.p (.int .i64 r5), .p (.int .u32 (IntKind.wrap .u32 r61.1)), .p (.int .u32 0), .p (.slice none 0 0), .p (.slice none 0 0), .p (.slice none 0 0), .p (.int .u64 0), .p (.int .i64 0), .p (.int .i64 0), .p (.slice none 0 0)]), (.p (.bool (r72.f_at == ((x2.length : Int)))))] from by simp only [e644, Option.bind_some, Option.map_some]) ?_
                  exact Sim.fin (S643.finN (lv_cons (Stills.lv (dT_api_Report.still (dT_api_Report.mk (SlF.nil dT_api_Tuple) (SlF.nil (dI .u32)) (SlF.nil (dI .i64)) (SlF.nil (dI .u8))))) (lv_cons (still_bool _).lv lv_nil))) ⟨[.p (.int .i64 r5), .p (.int .u32 (IntKind.wrap .u32 r61.1)), .p (.int .u32 0), .p (.slice none 0 0), .p (.slice none 0 0), .p (.slice none 0 0), .p (.int .u64 0), .p (.int .i64 0), .p (.int .i64 0), .p (.slice none 0 0)], (show dT_api_Report.R ((⟨r5, (IntKind.wrap .u32 r61.1), 0, (([] : List T_api_Tuple)), (([] : List Int)), (([] : List Int)), 0, 0, 0, (([] : List Int))⟩ : T_api_Report)) [.p (.int .i64 r5), .p (.int .u32 (IntKind.wrap .u32 r61.1)), .p (.int .u32 0), .p (.slice none 0 0), .p (.slice none 0 0), .p (.slice none 0 0), .p (.int .u64 0), .p (.int .i64 0), .p (.int .i64 0), .p (.slice none 0 0)] from (dT_api_Report.mk (SlF.nil dT_api_Tuple) (SlF.nil (dI .u32)) (SlF.nil (dI .i64)) (SlF.nil (dI .u8)))), rfl⟩
                · refine Sim.op rfl ?_
                  obtain ⟨H645, e646, S647⟩ := S79.stGv (i := 2) (j := 0) (own := false) (σ := (15 :: 0 :: 1 :: 1 :: 1 :: 1 :: 1 :: 1 :: 1 :: 0 :: σ)) (xs := [.p (.int .i64 r5), .p (.int .u32 (IntKind.wrap .u32 r61.1)), .p (.int .u32 0), .p (.slice none 0 0), .p (.slice none 0 0), .p (.slice none 0 0), .p (.int .u64 0), .p (.int .i64 0), .p (.int .i64 0), .p (.slice none 0 0)]) rfl rfl (stills_cons (still_int _ _) (stills_cons (still_int _ _) (stills_cons (still_int _ _) (stills_cons (SlF.nil dT_api_Tuple).still (stills_cons (SlF.nil (dI .u32)).still (stills_cons (SlF.nil (dI .i64)).still (stills_cons (still_int _ _) (stills_cons (still_int _ _) (stills_cons (still_int _ _) (stills_cons (SlF.nil (dI .u8)).still stills_nil)))))))))) rfl rfl
                  refine Sim.op (st_map e646) ?_
                  have e648 : ldO true 10 H645 (.ref ⟨h.length, 6, 0, (0 :: 0 :: 0 :: σ), []⟩ 0) = some (.agg [.p (.int .i64 r5), .p (.int .u32 (IntKind.wrap .u32 r61.1)), .p (.int .u32 0), .p (.slice none 0 0), .p (.slice none 0 0), .p (.slice none 0 0), .p (.int .u64 0), .p (.int .i64 0), .p (.int .i64 0), .p (.slice none 0 0)]) := (S647.atG (i := 2) rfl).ldVs (j := 0) (xs := [.p (.int .i64 r5), .p (.int .u32 (IntKind.wrap .u32 r61.1)), .p (.int .u32 0), .p (.slice none 0 0), .p (.slice none 0 0), .p (.slice none 0 0), .p (.int .u64 0), .p (.int .i64 0), .p (.int .i64 0), .p (.slice none 0 0)]) rfl rfl (by decide)
                  refine Sim.op (show _ = some [(.agg [.p (.int .i64 r5), .p (.int .u32 (IntKind.wrap .u32 r61.1)), .p (.int .u32 0), .p (.slice none 0 0), .p (.slice none 0 0), .p (.slice none 0 0), .p (.int .u64 0), .p (.int .i64 0), .p (.int .i64 0), .p (.slice none 0 0)]), (.p (.bool false))] from by simp only [e648, Option.bind_some, Option.map_some]) ?_
                  exact Sim.fin (S647.finN (lv_cons (Stills.lv (dT_api_Report.still (dT_api_Report.mk (SlF.nil dT_api_Tuple) (SlF.nil (dI .u32)) (SlF.nil (dI .i64)) (SlF.nil (dI .u8))))) (lv_cons (still_bool _).lv lv_nil))) ⟨[.p (.int .i64 r5), .p (.int .u32 (IntKind.wrap .u32 r61.1)), .p (.int .u32 0), .p (.slice none 0 0), .p (.slice none 0 0), .p (.slice none 0 0), .p (.int .u64 0), .p (.int .i64 0), .p (.int .i64 0), .p (.slice none 0 0)], (show dT_api_Report.R ((⟨r5, (IntKind.wrap .u32 r61.1), 0, (([] : List T_api_Tuple)), (([] : List Int)), (([] : List Int)), 0, 0, 0, (([] : List Int))⟩ : T_api_Report)) [.p (.int .i64 r5), .p (.int .u32 (IntKind.wrap .u32 r61.1)), .p (.int .u32 0), .p (.slice none 0 0), .p (.slice none 0 0), .p (.slice none 0 0), .p (.int .u64 0), .p (.int .i64 0), .p (.int .i64 0), .p (.slice none 0 0)] from (dT_api_Report.mk (SlF.nil dT_api_Tuple) (SlF.nil (dI .u32)) (SlF.nil (dI .i64)) (SlF.nil (dI .u8)))), rfl⟩
    · refine Sim.op (fA_ref _ _ _) ?_
      refine Sim.op ((S71.atG (i := 1) rfl).ld (j := 0) rfl) ?_
      refine Sim.op (castI_p _ _) ?_
      refine Sim.cd (fun hc => ?_) (fun hc => ?_)
      · refine Sim.cd (fun hc => ?_) (fun hc => ?_)
        · refine Sim.as (rtcp_parse_l0_ok ?_ k x2 ((⟨0, 0, 0, (([] : List T_api_Tuple)), (([] : List Int)), (([] : List Int)), 0, 0, 0, (([] : List Int))⟩ : T_api_Report)) ((⟨r5, (IntKind.wrap .u32 r61.1), 0, (([] : List T_api_Tuple)), (([] : List Int)), (([] : List Int)), 0, 0, 0, (([] : List Int))⟩ : T_api_Report)) ((⟨r61.2.b, r61.2.f_at, r61.2.bad⟩ : T_rtcp_reader)) u2 hu2 (.p (.slice none 0 0)) (SlF.nil dT_api_Tuple) (.p (.slice none 0 0)) (SlF.nil (dI .u32)) (.p (.slice none 0 0)) (SlF.nil (dI .i64)) (.p (.slice none 0 0)) (SlF.nil (dI .u8)) (0 :: 0 :: 0 :: σ) (.v (.p (.slice none 0 0))) (SoC.frz (SlF.nil dT_api_Tuple)) (fun v h => by cases h; simp) (.p (.slice none 0 0)) (SlF.nil (dI .u32)) (.p (.slice none 0 0)) (SlF.nil (dI .i64)) (.p (.slice none 0 0)) (SlF.nil (dI .u8)) (4 :: 0 :: 1 :: 0 :: σ) v66 h67 (2 :: 0 :: 1 :: 1 :: 1 :: 0 :: σ) H69 (S71.wk2 (all_cons (at_mem 2 rfl) (all_cons (at_mem 1 rfl) (all_cons (at_mem 0 rfl) all_nil))) all_nil)) 
          · intro r649_2 yg93 yg104 yg108 v652 h653 v654 h655 v656 h657 v658 h659 v660 h661 s662 c664 h665 h666 v667 h668 v669 h670 v671 h672 s673 v675 h676 s677 H650 S651
            refine Sim.ext (rtcp_parse_a0_1 _ _ _ _ _ _ _ _) ?_
            refine Sim.op (nilChk_ref _ _) ?_
            refine Sim.op (fA_ref _ _ _) ?_
            refine Sim.op ((S651.atG (i := 2) rfl).ld (j := 2) rfl) ?_
            refine Sim.op (asB_p _) ?_
            refine Sim.ch (P := fun r y => r = y) ?_ (fun b679 y680 h681 h682 => ?_)
            · refine Sim.cd (fun hc => ?_) (fun hc => ?_)
              · exact Sim.ret rfl rfl
              · refine Sim.op (fA_ref _ _ _) ?_
                refine Sim.op (h665.ld (S651.atG (i := 1) rfl) (j := 3) rfl) ?_
                refine Sim.op ((h665.sl (S651.atG (i := 1) rfl) (j := 3) rfl).len) ?_
                refine Sim.op (castI_p _ _) ?_
                exact Sim.ret rfl rfl
            subst h682
            refine Sim.op (nilChk_ref _ _) ?_
            refine Sim.op (fA_ref _ _ _) ?_
            obtain ⟨H683, e684, S685⟩ := S651.stG (i := 2) (j := 2) (own := true) (σ := (13 :: 1 :: 1 :: 1 :: 0 :: 1 :: 1 :: 1 :: 1 :: 1 :: 1 :: 0 :: σ)) (x := (.p (.bool b679))) rfl rfl (still_bool _) rfl
            refine Sim.op (st_map e684) ?_
            obtain ⟨v686, h687, h688⟩ := h665.fr
            obtain ⟨w689, H690, h695, e691, e692, e693, S694⟩ := S685.frzV (i := 1) (n := 10) (ys := [(.p (.int .i64 yg104.Kind)), (.p (.int .u32 yg104.From)), (.p (.int .u32 yg104.About)), v686, v667, v669, (.p (.int .u64 yg104.Rate)), (.p (.int .i64 yg104.f_Type)), (.p (.int .i64 yg104.Count)), v671]) rfl rfl ⟨(FrC.v (still_int _ _)), ⟨(FrC.v (still_int _ _)), ⟨(FrC.v (still_int _ _)), ⟨h687, ⟨(FrC.v h668.still), ⟨(FrC.v h670.still), ⟨(FrC.v (still_int _ _)), ⟨(FrC.v (still_int _ _)), ⟨(FrC.v (still_int _ _)), ⟨(FrC.v h672.still), trivial⟩⟩⟩⟩⟩⟩⟩⟩⟩⟩ rfl (by decide)
            refine Sim.op (e691) ?_
            refine Sim.op (nilChk_ref _ _) ?_
            refine Sim.op (fA_ref _ _ _) ?_
            refine Sim.op ((S685.atG (i := 2) rfl).ld (j := 2) rfl) ?_
            refine Sim.op (asB_p _) ?_
            refine Sim.cd (fun hc => ?_) (fun hc => ?_)
            · refine Sim.op (nilChk_ref _ _) ?_
              refine Sim.op (fA_ref _ _ _) ?_
              refine Sim.op ((S685.atG (i := 2) rfl).ld (j := 1) rfl) ?_
              refine Sim.op (castI_p _ _) ?_
              refine Sim.op ((h653.h H683).len) ?_
              refine Sim.op (castI_p _ _) ?_
              refine Sim.op rfl ?_
              obtain ⟨H696, e697, S698⟩ := Fm.stFrz (S0 := S685) (i0 := 0) (i := 0) (j := 0) (n := 10) (σ := (15 :: 0 :: 1 :: 1 :: 1 :: 1 :: 1 :: 1 :: 1 :: 0 :: σ)) S694 rfl e693 rfl rfl h695 rfl rfl
              refine Sim.op (st_map e697) ?_
              refine Sim.nd (rfl) ?_
              refine Sim.nd ((S698.atG (i := 2) rfl).ld (j := 1) rfl) ?_
              have e699 : ldO true 10 H696 (.ref ⟨h.length, 6, 0, s662, []⟩ 0) = some (.agg [.p (.int .i64 yg104.Kind), .p (.int .u32 yg104.From), .p (.int .u32 yg104.About), v686, v667, v669, .p (.int .u64 yg104.Rate), .p (.int .i64 yg104.f_Type), .p (.int .i64 yg104.Count), v671]) := (S698.atG (i := 0) rfl).ldVs (j := 0) (xs := [.p (.int .i64 yg104.Kind), .p (.int .u32 yg104.From), .p (.int .u32 yg104.About), v686, v667, v669, .p (.int .u64 yg104.Rate), .p (.int .i64 yg104.f_Type), .p (.int .i64 yg104.Count), v671]) rfl rfl (by decide)
              refine Sim.op (show _ = some [(.agg [.p (.int .i64 yg104.Kind), .p (.int .u32 yg104.From), .p (.int .u32 yg104.About), v686, v667, v669, .p (.int .u64 yg104.Rate), .p (.int .i64 yg104.f_Type), .p (.int .i64 yg104.Count), v671]), (.p (.bool (yg108.f_at == ((r649_2.length : Int)))))] from by simp only [e699, Option.bind_some, Option.map_some]) ?_
              exact Sim.fin (S698.finN (lv_cons (Stills.lv (dT_api_Report.still (dT_api_Report.mk h688 h668 h670 h672))) (lv_cons (still_bool _).lv lv_nil))) ⟨[.p (.int .i64 yg104.Kind), .p (.int .u32 yg104.From), .p (.int .u32 yg104.About), v686, v667, v669, .p (.int .u64 yg104.Rate), .p (.int .i64 yg104.f_Type), .p (.int .i64 yg104.Count), v671], (show dT_api_Report.R ((⟨yg104.Kind, yg104.From, yg104.About, yg104.Tuples, yg104.Abouts, yg104.Numbers, yg104.Rate, yg104.f_Type, yg104.Count, yg104.Body⟩ : T_api_Report)) [.p (.int .i64 yg104.Kind), .p (.int .u32 yg104.From), .p (.int .u32 yg104.About), v686, v667, v669, .p (.int .u64 yg104.Rate), .p (.int .i64 yg104.f_Type), .p (.int .i64 yg104.Count), v671] from (dT_api_Report.mk h688 h668 h670 h672)), rfl⟩
            · refine Sim.op rfl ?_
              obtain ⟨H700, e701, S702⟩ := Fm.stFrz (S0 := S685) (i0 := 0) (i := 0) (j := 0) (n := 10) (σ := (15 :: 0 :: 1 :: 1 :: 1 :: 1 :: 1 :: 1 :: 1 :: 0 :: σ)) S694 rfl e693 rfl rfl h695 rfl rfl
              refine Sim.op (st_map e701) ?_
              have e703 : ldO true 10 H700 (.ref ⟨h.length, 6, 0, s662, []⟩ 0) = some (.agg [.p (.int .i64 yg104.Kind), .p (.int .u32 yg104.From), .p (.int .u32 yg104.About), v686, v667, v669, .p (.int .u64 yg104.Rate), .p (.int .i64 yg104.f_Type), .p (.int .i64 yg104.Count), v671]) := (S702.atG (i := 0) rfl).ldVs (j := 0) (xs := [.p (.int .i64 yg104.Kind), .p (.int .u32 yg104.From), .p (.int .u32 yg104.About), v686, v667, v669, .p (.int .u64 yg104.Rate), .p (.int .i64 yg104.f_Type), .p (.int .i64 yg104.Count), v671]) rfl rfl (by decide)
              refine Sim.op (show _ = some [(.agg [.p (.int .i64 yg104.Kind), .p (.int .u32 yg104.From), .p (.int .u32 yg104.About), v686, v667, v669, .p (.int .u64 yg104.Rate), .p (.int .i64 yg104.f_Type), .p (.int .i64 yg104.Count), v671]), (.p (.bool false))] from by simp only [e703, Option.bind_some, Option.map_some]) ?_
              exact Sim.fin (S702.finN (lv_cons (Stills.lv (dT_api_Report.still (dT_api_Report.mk h688 h668 h670 h672))) (lv_cons (still_bool _).lv lv_nil))) ⟨[.p (.int .i64 yg104.Kind), .p (.int .u32 yg104.From), .p (.int .u32 yg104.About), v686, v667, v669, .p (.int .u64 yg104.Rate), .p (.int .i64 yg104.f_Type), .p (.int .i64 yg104.Count), v671], (show dT_api_Report.R ((⟨yg104.Kind, yg104.From, yg104.About, yg104.Tuples, yg104.Abouts, yg104.Numbers, yg104.Rate, yg104.f_Type, yg104.Count, yg104.Body⟩ : T_api_Report)) [.p (.int .i64 yg104.Kind), .p (.int .u32 yg104.From), .p (.int .u32 yg104.About), v686, v667, v669, .p (.int .u64 yg104.Rate), .p (.int .i64 yg104.f_Type), .p (.int .i64 yg104.Count), v671] from (dT_api_Report.mk h688 h668 h670 h672)), rfl⟩
        · refine Sim.cd (fun hc => ?_) (fun hc => ?_)
          · refine Sim.call (rtcp_reader_num_ok k (⟨r61.2.b, r61.2.f_at, r61.2.bad⟩ : T_rtcp_reader) h67 (S71.atG (i := 0) rfl) 4) fun r704 cs705 H706 h707 q708 => ?_
            obtain ⟨v709, h710, q708⟩ := q708
            cases q708
            have S711 := S71.setG (i := 0) (cs' := List.map C.v [v709, (.p (.int .i64 r704.2.f_at)), (.p (.bool r704.2.bad))]) rfl rfl rfl
            refine Sim.op (castI_p _ _) ?_
            refine Sim.op (fA_ref _ _ _) ?_
            obtain ⟨H712, e713, S714⟩ := S711.stG (i := 1) (j := 2) (own := true) (σ := (4 :: 1 :: 1 :: 1 :: 0 :: 1 :: 1 :: 1 :: 1 :: 1 :: 1 :: 0 :: σ)) (x := (.p (.int .u32 (IntKind.wrap .u32 r704.1)))) rfl rfl (still_int _ _) rfl
            refine Sim.op (st_map e713) ?_
            refine Sim.op ((S714.atG (i := 1) rfl).ldVs (j := 0) (xs := [.p (.int .i64 r5), .p (.int .u32 (IntKind.wrap .u32 r61.1)), .p (.int .u32 (IntKind.wrap .u32 r704.1)), .p (.slice none 0 0), .p (.slice none 0 0), .p (.slice none 0 0), .p (.int .u64 0), .p (.int .i64 0), .p (.int .i64 0), .p (.slice none 0 0)]) rfl rfl (by decide)) ?_
            refine Sim.op (nilChk_ref _ _) ?_
            refine Sim.op (fA_ref _ _ _) ?_
            refine Sim.op ((S714.atG (i := 0) rfl).ld (j := 2) rfl) ?_
            refine Sim.op (asB_p _) ?_
            refine Sim.cd (fun hc => ?_) (fun hc => ?_)
            · refine Sim.op (nilChk_ref _ _) ?_
              refine Sim.op (fA_ref _ _ _) ?_
              refine Sim.op ((S714.atG (i := 0) rfl).ld (j := 1) rfl) ?_
              refine Sim.op (castI_p _ _) ?_
              refine Sim.op ((hu2.h H712).len) ?_
              refine Sim.op (castI_p _ _) ?_
              refine Sim.op rfl ?_
              obtain ⟨H715, e716, S717⟩ := S714.stGv (i := 2) (j := 0) (own := false) (σ := (15 :: 0 :: 1 :: 1 :: 1 :: 1 :: 1 :: 1 :: 1 :: 0 :: σ)) (xs := [.p (.int .i64 r5), .p (.int .u32 (IntKind.wrap .u32 r61.1)), .p (.int .u32 (IntKind.wrap .u32 r704.1)), .p (.slice none 0 0), .p (.slice none 0 0), .p (.slice none 0 0), .p (.int .u64 0), .p (.int .i64 0), .p (.int .i64 0), .p (.slice none 0 0)]) rfl rfl (stills_cons (still_int _ _) (stills_cons (still_int _ _) (stills_cons (still_int _ _) (stills_cons (SlF.nil dT_api_Tuple).still (stills_cons (SlF.nil (dI .u32)).still (stills_cons (SlF.nil (dI .i64)).still (stills_cons (still_int _ _) (stills_cons (still_int _ _) (stills_cons (still_int _ _) (stills_cons (SlF.nil (dI .u8)).still stills_nil)))))))))) rfl rfl
              refine Sim.op (st_map e716) ?_
              refine Sim.nd (rfl) ?_
              refine Sim.nd ((S717.atG (i := 0) rfl).ld (j := 1) rfl) ?_
              have e718 : ldO true 10 H715 (.ref ⟨h.length, 6, 0, (0 :: 0 :: 0 :: σ), []⟩ 0) = some (.agg [.p (.int .i64 r5), .p (.int .u32 (IntKind.wrap .u32 r61.1)), .p (.int .u32 (IntKind.wrap .u32 r704.1)), .p (.slice none 0 0), .p (.slice none 0 0), .p (.slice none 0 0), .p (.int .u64 0), .p (.int .i64 0), .p (.int .i64 0), .p (.slice none 0 0)]) := (S717.atG (i := 2) rfl).ldVs (j := 0) (xs := [.p (.int .i64 r5), .p (.int .u32 (IntKind.wrap .u32 r61.1)), .p (.int .u32 (IntKind.wrap .u32 r704.1)), .p (.slice none 0 0), .p (.slice none 0 0), .p (.slice none 0 0), .p (.int .u64 0), .p (.int .i64 0), .p (.int .i64 0), .p (.slice none 0 0)]) rfl rfl (by decide)
              refine Sim.op (show _ = some [(.agg [.p (.int .i64 r5), .p (.int .u32 (IntKind.wrap .u32 r61.1)), .p (.int .u32 (IntKind.wrap .u32 r704.1)), .p (.slice none 0 0), .p (.slice none 0 0), .p (.slice none 0 0), .p (.int .u64 0), .p (.int .i64 0), .p (.int .i64 0), .p (.slice none 0 0)]), (.p (.bool (r704.2.f_at == ((x2.length : Int)))))] from by simp only [e718, Option.bind_some, Option.map_some]) ?_
              exact Sim.fin (S717.finN (lv_cons (Stills.lv (dT_api_Report.still (dT_api_Report.mk (SlF.nil dT_api_Tuple) (SlF.nil (dI .u32)) (SlF.nil (dI .i64)) (SlF.nil (dI .u8))))) (lv_cons (still_bool _).lv lv_nil))) ⟨[.p (.int .i64 r5), .p (.int .u32 (IntKind.wrap .u32 r61.1)), .p (.int .u32 (IntKind.wrap .u32 r704.1)), .p (.slice none 0 0), .p (.slice none 0 0), .p (.slice none 0 0), .p (.int .u64 0), .p (.int .i64 0), .p (.int .i64 0), .p (.slice none 0 0)], (show dT_api_Report.R ((⟨r5, (IntKind.wrap .u32 r61.1), (IntKind.wrap .u32 r704.1), (([] : List T_api_Tuple)), (([] : List Int)), (([] : List Int)), 0, 0, 0, (([] : List Int))⟩ : T_api_Report)) [.p (.int .i64 r5), .p (.int .u32 (IntKind.wrap .u32 r61.1)), .p (.int .u32 (IntKind.wrap .u32 r704.1)), .p (.slice none 0 0), .p (.slice none 0 0), .p (.slice none 0 0), .p (.int .u64 0), .p (.int .i64 0), .p (.int .i64 0), .p (.slice none 0 0)] from (dT_api_Report.mk (SlF.nil dT_api_Tuple) (SlF.nil (dI .u32)) (SlF.nil (dI .i64)) (SlF.nil (dI .u8)))), rfl⟩
            · refine Sim.op rfl ?_
              obtain ⟨H719, e720, S721⟩ := S714.stGv (i := 2) (j := 0) (own := false) (σ := (15 :: 0 :: 1 :: 1 :: 1 :: 1 :: 1 :: 1 :: 1 :: 0 :: σ)) (xs := [.p (.int .i64 r5), .p (.int .u32 (IntKind.wrap .u32 r61.1)), .p (.int .u32 (IntKind.wrap .u32 r704.1)), .p (.slice none 0 0), .p (.slice none 0 0), .p (.slice none 0 0), .p (.int .u64 0), .p (.int .i64 0), .p (.int .i64 0), .p (.slice none 0 0)]) rfl rfl (stills_cons (still_int _ _) (stills_cons (still_int _ _) (stills_cons (still_int _ _) (stills_cons (SlF.nil dT_api_Tuple).still (stills_cons (SlF.nil (dI .u32)).still (stills_cons (SlF.nil (dI .i64)).still (stills_cons (still_int _ _) (stills_cons (still_int _ _) (stills_cons (still_int _ _) (stills_cons (SlF.nil (dI .u8)).still stills_nil)))))))))) rfl rfl
              refine Sim.op (st_map e720) ?_
              have e722 : ldO true 10 H719 (.ref ⟨h.length, 6, 0, (0 :: 0 :: 0 :: σ), []⟩ 0) = some (.agg [.p (.int .i64 r5), .p (.int .u32 (IntKind.wrap .u32 r61.1)), .p (.int .u32 (IntKind.wrap .u32 r704.1)), .p (.slice none 0 0), .p (.slice none 0 0), .p (.slice none 0 0), .p (.int .u64 0), .p (.int .i64 0), .p (.int .i64 0), .p (.slice none 0 0)]) := (S721.atG (i := 2) rfl).ldVs (j := 0) (xs := [.p (.int .i64 r5), .p (.int .u32 (IntKind.wrap .u32 r61.1)), .p (.int .u32 (IntKind.wrap .u32 r704.1)), .p (.slice none 0 0), .p (.slice none 0 0), .p (.slice none 0 0), .p (.int .u64 0), .p (.int .i64 0), .p (.int .i64 0), .p (.slice none 0 0)]) rfl rfl (by decide)
              refine Sim.op (show _ = some [(.agg [.p (.int .i64 r5), .p (.int .u32 (IntKind.wrap .u32 r61.1)), .p (.int .u32 (IntKind.wrap .u32 r704.1)), .p (.slice none 0 0), .p (.slice none 0 0), .p (.slice none 0 0), .p (.int .u64 0), .p (.int .i64 0), .p (.int .i64 0), .p (.slice none 0 0)]), (.p (.bool false))] from by simp only [e722, Option.bind_some, Option.map_some]) ?_
              exact Sim.fin (S721.finN (lv_cons (Stills.lv (dT_api_Report.still (dT_api_Report.mk (SlF.nil dT_api_Tuple) (SlF.nil (dI .u32)) (SlF.nil (dI .i64)) (SlF.nil (dI .u8))))) (lv_cons (still_bool _).lv lv_nil))) ⟨[.p (.int .i64 r5), .p (.int .u32 (IntKind.wrap .u32 r61.1)), .p (.int .u32 (IntKind.wrap .u32 r704.1)), .p (.slice none 0 0), .p (.slice none 0 0), .p (.slice none 0 0), .p (.int .u64 0), .p (.int .i64 0), .p (.int .i64 0), .p (.slice none 0 0)], (show dT_api_Report.R ((⟨r5, (IntKind.wrap .u32 r61.1), (IntKind.wrap .u32 r704.1), (([] : List T_api_Tuple)), (([] : List Int)), (([] : List Int)), 0, 0, 0, (([] : List Int))⟩ : T_api_Report)) [.p (.int .i64 r5), .p (.int .u32 (IntKind.wrap .u32 r61.1)), .p (.int .u32 (IntKind.wrap .u32 r704.1)), .p (.slice none 0 0), .p (.slice none 0 0), .p (.slice none 0 0), .p (.int .u64 0), .p (.int .i64 0), .p (.int .i64 0), .p (.slice none 0 0)] from (dT_api_Report.mk (SlF.nil dT_api_Tuple) (SlF.nil (dI .u32)) (SlF.nil (dI .i64)) (SlF.nil (dI .u8)))), rfl⟩
          · refine Sim.cd (fun hc => ?_) (fun hc => ?_)
            · refine Sim.as (rtcp_parse_l1_ok ?_ k x2 ((⟨0, 0, 0, (([] : List T_api_Tuple)), (([] : List Int)), (([] : List Int)), 0, 0, 0, (([] : List Int))⟩ : T_api_Report)) ((⟨r5, (IntKind.wrap .u32 r61.1), 0, (([] : List T_api_Tuple)), (([] : List Int)), (([] : List Int)), 0, 0, 0, (([] : List Int))⟩ : T_api_Report)) ((⟨r61.2.b, r61.2.f_at, r61.2.bad⟩ : T_rtcp_reader)) u2 hu2 (.p (.slice none 0 0)) (SlF.nil dT_api_Tuple) (.p (.slice none 0 0)) (SlF.nil (dI .u32)) (.p (.slice none 0 0)) (SlF.nil (dI .i64)) (.p (.slice none 0 0)) (SlF.nil (dI .u8)) (0 :: 0 :: 0 :: σ) (.p (.slice none 0 0)) (SlF.nil dT_api_Tuple) (.v (.p (.slice none 0 0))) (SoC.frz (SlF.nil (dI .u32))) (fun v h => by cases h; simp) (.v (.p (.slice none 0 0))) (SoC.frz (SlF.nil (dI .i64))) (fun v h => by cases h; simp) (.p (.slice none 0 0)) (SlF.nil (dI .u8)) (4 :: 0 :: 1 :: 0 :: σ) v66 h67 (2 :: 0 :: 1 :: 1 :: 1 :: 0 :: σ) H69 (S71.wk2 (all_cons (at_mem 2 rfl) (all_cons (at_mem 1 rfl) (all_cons (at_mem 0 rfl) all_nil))) all_nil)) 
              · intro r723_2 yg255 yg267 yg271 v726 h727 v728 h729 v730 h731 v732 h733 v734 h735 s736 v738 h739 c740 h741 h742 c743 h744 h745 v746 h747 s748 v750 h751 s752 H724 S725
                refine Sim.ext (rtcp_parse_a1_3 _ _ _ _ _ _ _ _) ?_
                refine Sim.op (nilChk_ref _ _) ?_
                refine Sim.op (fA_ref _ _ _) ?_
                refine Sim.op ((S725.atG (i := 2) rfl).ld (j := 2) rfl) ?_
                refine Sim.op (asB_p _) ?_
                refine Sim.ch (P := fun r y => r = y) ?_ (fun b754 y755 h756 h757 => ?_)
                · refine Sim.cd (fun hc => ?_) (fun hc => ?_)
                  · exact Sim.ret rfl rfl
                  · refine Sim.op (fA_ref _ _ _) ?_
                    refine Sim.op (h741.ld (S725.atG (i := 1) rfl) (j := 4) rfl) ?_
                    refine Sim.op ((h741.sl (S725.atG (i := 1) rfl) (j := 4) rfl).len) ?_
                    refine Sim.op (castI_p _ _) ?_
                    exact Sim.ret rfl rfl
                subst h757
                refine Sim.ch (P := fun r y => r = y) ?_ (fun b758 y759 h760 h761 => ?_)
                · refine Sim.cd (fun hc => ?_) (fun hc => ?_)
                  · exact Sim.ret rfl rfl
                  · refine Sim.op (fA_ref _ _ _) ?_
                    refine Sim.op (h741.ld (S725.atG (i := 1) rfl) (j := 4) rfl) ?_
                    refine Sim.op ((h741.sl (S725.atG (i := 1) rfl) (j := 4) rfl).len) ?_
                    refine Sim.op (castI_p _ _) ?_
                    exact Sim.ret rfl rfl
                subst h761
                refine Sim.op (nilChk_ref _ _) ?_
                refine Sim.op (fA_ref _ _ _) ?_
                obtain ⟨H762, e763, S764⟩ := S725.stG (i := 2) (j := 2) (own := true) (σ := (19 :: 1 :: 1 :: 1 :: 1 :: 1 :: 0 :: 1 :: 1 :: 1 :: 1 :: 1 :: 1 :: 0 :: σ)) (x := (.p (.bool b758))) rfl rfl (still_bool _) rfl
                refine Sim.op (st_map e763) ?_
                obtain ⟨v765, h766, h767⟩ := h741.fr
                obtain ⟨v768, h769, h770⟩ := h744.fr
                obtain ⟨w771, H772, h777, e773, e774, e775, S776⟩ := S764.frzV (i := 1) (n := 10) (ys := [(.p (.int .i64 yg267.Kind)), (.p (.int .u32 yg267.From)), (.p (.int .u32 yg267.About)), v738, v765, v768, (.p (.int .u64 yg267.Rate)), (.p (.int .i64 yg267.f_Type)), (.p (.int .i64 yg267.Count)), v746]) rfl rfl ⟨(FrC.v (still_int _ _)), ⟨(FrC.v (still_int _ _)), ⟨(FrC.v (still_int _ _)), ⟨(FrC.v h739.still), ⟨h766, ⟨h769, ⟨(FrC.v (still_int _ _)), ⟨(FrC.v (still_int _ _)), ⟨(FrC.v (still_int _ _)), ⟨(FrC.v h747.still), trivial⟩⟩⟩⟩⟩⟩⟩⟩⟩⟩ rfl (by decide)
                refine Sim.op (e773) ?_
                refine Sim.op (nilChk_ref _ _) ?_
                refine Sim.op (fA_ref _ _ _) ?_
                refine Sim.op ((S764.atG (i := 2) rfl).ld (j := 2) rfl) ?_
                refine Sim.op (asB_p _) ?_
                refine Sim.cd (fun hc => ?_) (fun hc => ?_)
                · refine Sim.op (nilChk_ref _ _) ?_
                  refine Sim.op (fA_ref _ _ _) ?_
                  refine Sim.op ((S764.atG (i := 2) rfl).ld (j := 1) rfl) ?_
                  refine Sim.op (castI_p _ _) ?_
                  refine Sim.op ((h727.h H762).len) ?_
                  refine Sim.op (castI_p _ _) ?_
                  refine Sim.op rfl ?_
                  obtain ⟨H778, e779, S780⟩ := Fm.stFrz (S0 := S764) (i0 := 0) (i := 0) (j := 0) (n := 10) (σ := (15 :: 0 :: 1 :: 1 :: 1 :: 1 :: 1 :: 1 :: 1 :: 0 :: σ)) S776 rfl e775 rfl rfl h777 rfl rfl
                  refine Sim.op (st_map e779) ?_
                  refine Sim.nd (rfl) ?_
                  refine Sim.nd ((S780.atG (i := 2) rfl).ld (j := 1) rfl) ?_
                  have e781 : ldO true 10 H778 (.ref ⟨h.length, 6, 0, s736, []⟩ 0) = some (.agg [.p (.int .i64 yg267.Kind), .p (.int .u32 yg267.From), .p (.int .u32 yg267.About), v738, v765, v768, .p (.int .u64 yg267.Rate), .p (.int .i64 yg267.f_Type), .p (.int .i64 yg267.Count), v746]) := (S780.atG (i := 0) rfl).ldVs (j := 0) (xs := [.p (.int .i64 yg267.Kind), .p (.int .u32 yg267.From), .p (.int .u32 yg267.About), v738, v765, v768, .p (.int .u64 yg267.Rate), .p (.int .i64 yg267.f_Type), .p (.int .i64 yg267.Count), v746]) rfl rfl (by decide)
                  refine Sim.op (show _ = some [(.agg [.p (.int .i64 yg267.Kind), .p (.int .u32 yg267.From), .p (.int .u32 yg267.About), v738, v765, v768, .p (.int .u64 yg267.Rate), .p (.int .i64 yg267.f_Type), .p (.int .i64 yg267.Count), v746]), (.p (.bool (yg271.f_at == ((r723_2.length : Int)))))] from by simp only [e781, Option.bind_some, Option.map_some]) ?_
                  exact Sim.fin (S780.finN (lv_cons (Stills.lv (dT_api_Report.still (dT_api_Report.mk h739 h767 h770 h747))) (lv_cons (still_bool _).lv lv_nil))) ⟨[.p (.int .i64 yg267.Kind), .p (.int .u32 yg267.From), .p (.int .u32 yg267.About), v738, v765, v768, .p (.int .u64 yg267.Rate), .p (.int .i64 yg267.f_Type), .p (.int .i64 yg267.Count), v746], (show dT_api_Report.R ((⟨yg267.Kind, yg267.From, yg267.About, yg267.Tuples, yg267.Abouts, yg267.Numbers, yg267.Rate, yg267.f_Type, yg267.Count, yg267.Body⟩ : T_api_Report)) [.p (.int .i64 yg267.Kind), .p (.int .u32 yg267.From), .p (.int .u32 yg267.About), v738, v765, v768, .p (.int .u64 yg267.Rate), .p (.int .i64 yg267.f_Type), .p (.int .i64 yg267.Count), v746] from (dT_api_Report.mk h739 h767 h770 h747)), rfl⟩
                · refine Sim.op rfl ?_
                  obtain ⟨H782, e783, S784⟩ := Fm.stFrz (S0 := S764) (i0 := 0) (i := 0) (j := 0) (n := 10) (σ := (15 :: 0 :: 1 :: 1 :: 1 :: 1 :: 1 :: 1 :: 1 :: 0 :: σ)) S776 rfl e775 rfl rfl h777 rfl rfl
                  refine Sim.op (st_map e783) ?_
                  have e785 : ldO true 10 H782 (.ref ⟨h.length, 6, 0, s736, []⟩ 0) = some (.agg [.p (.int .i64 yg267.Kind), .p (.int .u32 yg267.From), .p (.int .u32 yg267.About), v738, v765, v768, .p (.int .u64 yg267.Rate), .p (.int .i64 yg267.f_Type), .p (.int .i64 yg267.Count), v746]) := (S784.atG (i := 0) rfl).ldVs (j := 0) (xs := [.p (.int .i64 yg267.Kind), .p (.int .u32 yg267.From), .p (.int .u32 yg267.About), v738, v765, v768, .p (.int .u64 yg267.Rate), .p (.int .i64 yg267.f_Type), .p (.int .i64 yg267.Count), v746]) rfl rfl (by decide)
                  refine Sim.op (show _ = some [(.agg [.p (.int .i64 yg267.Kind), .p (.int .u32 yg267.From), .p (.int .u32 yg267.About), v738, v765, v768, .p (.int .u64 yg267.Rate), .p (.int .i64 yg267.f_Type), .p (.int .i64 yg267.Count), v746]), (.p (.bool false))] from by simp only [e785, Option.bind_some, Option.map_some]) ?_
                  exact Sim.fin (S784.finN (lv_cons (Stills.lv (dT_api_Report.still (dT_api_Report.mk h739 h767 h770 h747))) (lv_cons (still_bool _).lv lv_nil))) ⟨[.p (.int .i64 yg267.Kind), .p (.int .u32 yg267.From), .p (.int .u32 yg267.About), v738, v765, v768, .p (.int .u64 yg267.Rate), .p (.int .i64 yg267.f_Type), .p (.int .i64 yg267.Count), v746], (show dT_api_Report.R ((⟨yg267.Kind, yg267.From, yg267.About, yg267.Tuples, yg267.Abouts, yg267.Numbers, yg267.Rate, yg267.f_Type, yg267.Count, yg267.Body⟩ : T_api_Report)) [.p (.int .i64 yg267.Kind), .p (.int .u32 yg267.From), .p (.int .u32 yg267.About), v738, v765, v768, .p (.int .u64 yg267.Rate), .p (.int .i64 yg267.f_Type), .p (.int .i64 yg267.Count), v746] from (dT_api_Report.mk h739 h767 h770 h747)), rfl⟩
            · refine Sim.cd (fun hc => ?_) (fun hc => ?_)
              · refine Sim.call (rtcp_reader_remb_ok k (⟨r61.2.b, r61.2.f_at, r61.2.bad⟩ : T_rtcp_reader) h67 (S71.atG (i := 0) rfl) (⟨r5, (IntKind.wrap .u32 r61.1), 0, (([] : List T_api_Tuple)), (([] : List Int)), (([] : List Int)), 0, 0, 0, (([] : List Int))⟩ : T_api_Report) (SlF.nil dT_api_Tuple) (SoC.frz (SlF.nil (dI .u32))) (fun v h => by cases h; simp) (SlF.nil (dI .i64)) (SlF.nil (dI .u8)) (S71.atG (i := 1) rfl) (by simp [Loc.key])) fun r786 cs787 H788 h789 q790 => ?_
                obtain ⟨v791, v793, c795, v798, v800, h792, h794, h796, h797, h799, h801, q790⟩ := q790
                cases q790
                have S802 := S71.setG (i := 1) (cs' := [.v (.p (.int .i64 r786.2.Kind)), .v (.p (.int .u32 r786.2.From)), .v (.p (.int .u32 r786.2.About)), .v v793, c795, .v v798, .v (.p (.int .u64 r786.2.Rate)), .v (.p (.int .i64 r786.2.f_Type)), .v (.p (.int .i64 r786.2.Count)), .v v800]) rfl rfl rfl
                have S803 := S802.setG (i := 0) (cs' := List.map C.v [v791, (.p (.int .i64 r786.1.f_at)), (.p (.bool r786.1.bad))]) rfl rfl rfl
                obtain ⟨v804, h805, h806⟩ := h796.fr
                obtain ⟨w807, H808, h813, e809, e810, e811, S812⟩ := S803.frzV (i := 1) (n := 10) (ys := [(.p (.int .i64 r786.2.Kind)), (.p (.int .u32 r786.2.From)), (.p (.int .u32 r786.2.About)), v793, v804, v798, (.p (.int .u64 r786.2.Rate)), (.p (.int .i64 r786.2.f_Type)), (.p (.int .i64 r786.2.Count)), v800]) rfl rfl ⟨(FrC.v (still_int _ _)), ⟨(FrC.v (still_int _ _)), ⟨(FrC.v (still_int _ _)), ⟨(FrC.v h794.still), ⟨h805, ⟨(FrC.v h799.still), ⟨(FrC.v (still_int _ _)), ⟨(FrC.v (still_int _ _)), ⟨(FrC.v (still_int _ _)), ⟨(FrC.v h801.still), trivial⟩⟩⟩⟩⟩⟩⟩⟩⟩⟩ rfl (by decide)
                refine Sim.op (e809) ?_
                refine Sim.op (nilChk_ref _ _) ?_
                refine Sim.op (fA_ref _ _ _) ?_
                refine Sim.op ((S803.atG (i := 0) rfl).ld (j := 2) rfl) ?_
                refine Sim.op (asB_p _) ?_
                refine Sim.cd (fun hc => ?_) (fun hc => ?_)
                · refine Sim.op (nilChk_ref _ _) ?_
                  refine Sim.op (fA_ref _ _ _) ?_
                  refine Sim.op ((S803.atG (i := 0) rfl).ld (j := 1) rfl) ?_
                  refine Sim.op (castI_p _ _) ?_
                  refine Sim.op ((hu2.h (ptC (ptC H69 ⟨h.length, 8, 0, (4 :: 0 :: 1 :: 0 :: σ), []⟩ 0 ([.v (.p (.int .i64 r786.2.Kind)), .v (.p (.int .u32 r786.2.From)), .v (.p (.int .u32 r786.2.About)), .v v793, c795, .v v798, .v (.p (.int .u64 r786.2.Rate)), .v (.p (.int .i64 r786.2.f_Type)), .v (.p (.int .i64 r786.2.Count)), .v v800])) ⟨h.length, 27, 0, (2 :: 0 :: 1 :: 1 :: 1 :: 0 :: σ), []⟩ 0 (List.map C.v [v791, (.p (.int .i64 r786.1.f_at)), (.p (.bool r786.1.bad))]))).len) ?_
                  refine Sim.op (castI_p _ _) ?_
                  refine Sim.op rfl ?_
                  obtain ⟨H814, e815, S816⟩ := Fm.stFrz (S0 := S803) (i0 := 2) (i := 2) (j := 0) (n := 10) (σ := (15 :: 0 :: 1 :: 1 :: 1 :: 1 :: 1 :: 1 :: 1 :: 0 :: σ)) S812 rfl e811 rfl rfl h813 rfl rfl
                  refine Sim.op (st_map e815) ?_
                  refine Sim.nd (rfl) ?_
                  refine Sim.nd ((S816.atG (i := 0) rfl).ld (j := 1) rfl) ?_
                  have e817 : ldO true 10 H814 (.ref ⟨h.length, 6, 0, (0 :: 0 :: 0 :: σ), []⟩ 0) = some (.agg [.p (.int .i64 r786.2.Kind), .p (.int .u32 r786.2.From), .p (.int .u32 r786.2.About), v793, v804, v798, .p (.int .u64 r786.2.Rate), .p (.int .i64 r786.2.f_Type), .p (.int .i64 r786.2.Count), v800]) := (S816.atG (i := 2) rfl).ldVs (j := 0) (xs := [.p (.int .i64 r786.2.Kind), .p (.int .u32 r786.2.From), .p (.int .u32 r786.2.About), v793, v804, v798, .p (.int .u64 r786.2.Rate), .p (.int .i64 r786.2.f_Type), .p (.int .i64 r786.2.Count), v800]) rfl rfl (by decide)
                  refine Sim.op (show _ = some [(.agg [.p (.int .i64 r786.2.Kind), .p (.int .u32 r786.2.From), .p (.int .u32 r786.2.About), v793, v804, v798, .p (.int .u64 r786.2.Rate), .p (.int .i64 r786.2.f_Type), .p (.int .i64 r786.2.Count), v800]), (.p (.bool (r786.1.f_at == ((x2.length : Int)))))] from by simp only [e817, Option.bind_some, Option.map_some]) ?_
                  exact Sim.fin (S816.finN (lv_cons (Stills.lv (dT_api_Report.still (dT_api_Report.mk h794 h806 h799 h801))) (lv_cons (still_bool _).lv lv_nil))) ⟨[.p (.int .i64 r786.2.Kind), .p (.int .u32 r786.2.From), .p (.int .u32 r786.2.About), v793, v804, v798, .p (.int .u64 r786.2.Rate), .p (.int .i64 r786.2.f_Type), .p (.int .i64 r786.2.Count), v800], (show dT_api_Report.R ((⟨r786.2.Kind, r786.2.From, r786.2.About, r786.2.Tuples, r786.2.Abouts, r786.2.Numbers, r786.2.Rate, r786.2.f_Type, r786.2.Count, r786.2.Body⟩ : T_api_Report)) [.p (.int .i64 r786.2.Kind), .p (.int .u32 r786.2.From), .p (.int .u32 r786.2.About), v793, v804, v798, .p (.int .u64 r786.2.Rate), .p (.int .i64 r786.2.f_Type), .p (.int .i64 r786.2.Count), v800] from (dT_api_Report.mk h794 h806 h799 h801)), rfl⟩
                · refine Sim.op rfl ?_
                  obtain ⟨H818, e819, S820⟩ := Fm.stFrz (S0 := S803) (i0 := 2) (i := 2) (j := 0) (n := 10) (σ := (15 :: 0 :: 1 :: 1 :: 1 :: 1 :: 1 :: 1 :: 1 :: 0 :: σ)) S812 rfl e811 rfl rfl h813 rfl rfl
                  refine Sim.op (st_map e819) ?_
                  have e821 : ldO true 10 H818 (.ref ⟨h.length, 6, 0, (0 :: 0 :: 0 :: σ), []⟩ 0) = some (.agg [.p (.int .i64 r786.2.Kind), .p (.int .u32 r786.2.From), .p (.int .u32 r786.2.About), v793, v804, v798, .p (.int .u64 r786.2.Rate), .p (.int .i64 r786.2.f_Type), .p (.int .i64 r786.2.Count), v800]) := (S820.atG (i := 2) rfl).ldVs (j := 0) (xs := [.p (.int .i64 r786.2.Kind), .p (.int .u32 r786.2.From), .p (.int .u32 r786.2.About), v793, v804, v798, .p (.int .u64 r786.2.Rate), .p (.int .i64 r786.2.f_Type), .p (.int .i64 r786.2.Count), v800]) rfl rfl (by decide)
                  refine Sim.op (show _ = some [(.agg [.p (.int .i64 r786.2.Kind), .p (.int .u32 r786.2.From), .p (.int .u32 r786.2.About), v793, v804, v798, .p (.int .u64 r786.2.Rate), .p (.int .i64 r786.2.f_Type), .p (.int .i64 r786.2.Count), v800]), (.p (.bool false))] from by simp only [e821, Option.bind_some, Option.map_some]) ?_
                  exact Sim.fin (S820.finN (lv_cons (Stills.lv (dT_api_Report.still (dT_api_Report.mk h794 h806 h799 h801))) (lv_cons (still_bool _).lv lv_nil))) ⟨[.p (.int .i64 r786.2.Kind), .p (.int .u32 r786.2.From), .p (.int .u32 r786.2.About), v793, v804, v798, .p (.int .u64 r786.2.Rate), .p (.int .i64 r786.2.f_Type), .p (.int .i64 r786.2.Count), v800], (show dT_api_Report.R ((⟨r786.2.Kind, r786.2.From, r786.2.About, r786.2.Tuples, r786.2.Abouts, r786.2.Numbers, r786.2.Rate, r786.2.f_Type, r786.2.Count, r786.2.Body⟩ : T_api_Report)) [.p (.int .i64 r786.2.Kind), .p (.int .u32 r786.2.From), .p (.int .u32 r786.2.About), v793, v804, v798, .p (.int .u64 r786.2.Rate), .p (.int .i64 r786.2.f_Type), .p (.int .i64 r786.2.Count), v800] from (dT_api_Report.mk h794 h806 h799 h801)), rfl⟩
              · refine Sim.op ((S71.atG (i := 1) rfl).ldVs (j := 0) (xs := [.p (.int .i64 r5), .p (.int .u32 (IntKind.wrap .u32 r61.1)), .p (.int .u32 0), .p (.slice none 0 0), .p (.slice none 0 0), .p (.slice none 0 0), .p (.int .u64 0), .p (.int .i64 0), .p (.int .i64 0), .p (.slice none 0 0)]) rfl rfl (by decide)) ?_
                refine Sim.op (nilChk_ref _ _) ?_
                refine Sim.op (fA_ref _ _ _) ?_
                refine Sim.op ((S71.atG (i := 0) rfl).ld (j := 2) rfl) ?_
                refine Sim.op (asB_p _) ?_
                refine Sim.cd (fun hc => ?_) (fun hc => ?_)
                · refine Sim.op (nilChk_ref _ _) ?_
                  refine Sim.op (fA_ref _ _ _) ?_
                  refine Sim.op ((S71.atG (i := 0) rfl).ld (j := 1) rfl) ?_
                  refine Sim.op (castI_p _ _) ?_
                  refine Sim.op ((hu2.h H69).len) ?_
                  refine Sim.op (castI_p _ _) ?_
                  refine Sim.op rfl ?_
                  obtain ⟨H822, e823, S824⟩ := S71.stGv (i := 2) (j := 0) (own := false) (σ := (15 :: 0 :: 1 :: 1 :: 1 :: 1 :: 1 :: 1 :: 1 :: 0 :: σ)) (xs := [.p (.int .i64 r5), .p (.int .u32 (IntKind.wrap .u32 r61.1)), .p (.int .u32 0), .p (.slice none 0 0), .p (.slice none 0 0), .p (.slice none 0 0), .p (.int .u64 0), .p (.int .i64 0), .p (.int .i64 0), .p (.slice none 0 0)]) rfl rfl (stills_cons (still_int _ _) (stills_cons (still_int _ _) (stills_cons (still_int _ _) (stills_cons (SlF.nil dT_api_Tuple).still (stills_cons (SlF.nil (dI .u32)).still (stills_cons (SlF.nil (dI .i64)).still (stills_cons (still_int _ _) (stills_cons (still_int _ _) (stills_cons (still_int _ _) (stills_cons (SlF.nil (dI .u8)).still stills_nil)))))))))) rfl rfl
                  refine Sim.op (st_map e823) ?_
                  refine Sim.nd (rfl) ?_
                  refine Sim.nd ((S824.atG (i := 0) rfl).ld (j := 1) rfl) ?_
                  have e825 : ldO true 10 H822 (.ref ⟨h.length, 6, 0, (0 :: 0 :: 0 :: σ), []⟩ 0) = some (.agg [.p (.int .i64 r5), .p (.int .u32 (IntKind.wrap .u32 r61.1)), .p (.int .u32 0), .p (.slice none 0 0), .p (.slice none 0 0), .p (.slice none 0 0), .p (.int .u64 0), .p (.int .i64 0), .p (.int .i64 0), .p (.slice none 0 0)]) := (S824.atG (i := 2) rfl).ldVs (j := 0) (xs := [.p (.int .i64 r5), .p (.int .u32 (IntKind.wrap .u32 r61.1)), .p (.int .u32 0), .p (.slice none 0 0), .p (.slice none 0 0), .p (.slice none 0 0), .p (.int .u64 0), .p (.int .i64 0), .p (.int .i64 0), .p (.slice none 0 0)]) rfl rfl (by decide)
                  refine Sim.op (show _ = some [(.agg [.p (.int .i64 r5), .p (.int .u32 (IntKind.wrap .u32 r61.1)), .p (.int .u32 0), .p (.slice none 0 0), .p (.slice none 0 0), .p (.slice none 0 0), .p (.int .u64 0), .p (.int .i64 0), .p (.int .i64 0), .p (.slice none 0 0)]), (.p (.bool (r61.2.f_at == ((x2.length : Int)))))] from by simp only [e825, Option.bind_some, Option.map_some]) ?_
                  exact Sim.fin (S824.finN (lv_cons (Stills.lv (dT_api_Report.still (dT_api_Report.mk (SlF.nil dT_api_Tuple) (SlF.nil (dI .u32)) (SlF.nil (dI .i64)) (SlF.nil (dI .u8))))) (lv_cons (still_bool _).lv lv_nil))) ⟨[.p (.int .i64 r5), .p (.int .u32 (IntKind.wrap .u32 r61.1)), .p (.int .u32 0), .p (.slice none 0 0), .p (.slice none 0 0), .p (.slice none 0 0), .p (.int .u64 0), .p (.int .i64 0), .p (.int .i64 0), .p (.slice none 0 0)], (show dT_api_Report.R ((⟨r5, (IntKind.wrap .u32 r61.1), 0, (([] : List T_api_Tuple)), (([] : List Int)), (([] : List Int)), 0, 0, 0, (([] : List Int))⟩ : T_api_Report)) [.p (.int .i64 r5), .p (.int .u32 (IntKind.wrap .u32 r61.1)), .p (.int .u32 0), .p (.slice none 0 0), .p (.slice none 0 0), .p (.slice none 0 0), .p (.int .u64 0), .p (.int .i64 0), .p (.int .i64 0), .p (.slice none 0 0)] from (dT_api_Report.mk (SlF.nil dT_api_Tuple) (SlF.nil (dI .u32)) (SlF.nil (dI .i64)) (SlF.nil (dI .u8)))), rfl⟩
                · refine Sim.op rfl ?_
                  obtain ⟨H826, e827, S828⟩ := S71.stGv (i := 2) (j := 0) (own := false) (σ := (15 :: 0 :: 1 :: 1 :: 1 :: 1 :: 1 :: 1 :: 1 :: 0 :: σ)) (xs := [.p (.int .i64 r5), .p (.int .u32 (IntKind.wrap .u32 r61.1)), .p (.int .u32 0), .p (.slice none 0 0), .p (.slice none 0 0), .p (.slice none 0 0), .p (.int .u64 0), .p (.int .i64 0), .p (.int .i64 0), .p (.slice none 0 0)]) rfl rfl (stills_cons (still_int _ _) (stills_cons (still_int _ _) (stills_cons (still_int _ _) (stills_cons (SlF.nil dT_api_Tuple).still (stills_cons (SlF.nil (dI .u32)).still (stills_cons (SlF.nil (dI .i64)).still (stills_cons (still_int _ _) (stills_cons (still_int _ _) (stills_cons (still_int _ _) (stills_cons (SlF.nil (dI .u8)).still stills_nil)))))))))) rfl rfl
                  refine Sim.op (st_map e827) ?_
                  have e829 : ldO true 10 H826 (.ref ⟨h.length, 6, 0, (0 :: 0 :: 0 :: σ), []⟩ 0) = some (.agg [.p (.int .i64 r5), .p (.int .u32 (IntKind.wrap .u32 r61.1)), .p (.int .u32 0), .p (.slice none 0 0), .p (.slice none 0 0), .p (.slice none 0 0), .p (.int .u64 0), .p (.int .i64 0), .p (.int .i64 0), .p (.slice none 0 0)]) := (S828.atG (i := 2) rfl).ldVs (j := 0) (xs := [.p (.int .i64 r5), .p (.int .u32 (IntKind.wrap .u32 r61.1)), .p (.int .u32 0), .p (.slice none 0 0), .p (.slice none 0 0), .p (.slice none 0 0), .p (.int .u64 0), .p (.int .i64 0), .p (.int .i64 0), .p (.slice none 0 0)]) rfl rfl (by decide)
                  refine Sim.op (show _ = some [(.agg [.p (.int .i64 r5), .p (.int .u32 (IntKind.wrap .u32 r61.1)), .p (.int .u32 0), .p (.slice none 0 0), .p (.slice none 0 0), .p (.slice none 0 0), .p (.int .u64 0), .p (.int .i64 0), .p (.int .i64 0), .p (.slice none 0 0)]), (.p (.bool false))] from by simp only [e829, Option.bind_some, Option.map_some]) ?_
                  exact Sim.fin (S828.finN (lv_cons (Stills.lv (dT_api_Report.still (dT_api_Report.mk (SlF.nil dT_api_Tuple) (SlF.nil (dI .u32)) (SlF.nil (dI .i64)) (SlF.nil (dI .u8))))) (lv_cons (still_bool _).lv lv_nil))) ⟨[.p (.int .i64 r5), .p (.int .u32 (IntKind.wrap .u32 r61.1)), .p (.int .u32 0), .p (.slice none 0 0), .p (.slice none 0 0), .p (.slice none 0 0), .p (.int .u64 0), .p (.int .i64 0), .p (.int .i64 0), .p (.slice none 0 0)], (show dT_api_Report.R ((⟨r5, (IntKind.wrap .u32 r61.1), 0, (([] : List T_api_Tuple)), (([] : List Int)), (([] : List Int)), 0, 0, 0, (([] : List Int))⟩ : T_api_Report)) [.p (.int .i64 r5), .p (.int .u32 (IntKind.wrap .u32 r61.1)), .p (.int .u32 0), .p (.slice none 0 0), .p (.slice none 0 0), .p (.slice none 0 0), .p (.int .u64 0), .p (.int .i64 0), .p (.int .i64 0), .p (.slice none 0 0)] from (dT_api_Report.mk (SlF.nil dT_api_Tuple) (SlF.nil (dI .u32)) (SlF.nil (dI .i64)) (SlF.nil (dI .u8)))), rfl⟩
      · refine Sim.cd (fun hc => ?_) (fun hc => ?_)
        · refine Sim.as (rtcp_parse_l0_ok ?_ k x2 ((⟨0, 0, 0, (([] : List T_api_Tuple)), (([] : List Int)), (([] : List Int)), 0, 0, 0, (([] : List Int))⟩ : T_api_Report)) ((⟨r5, (IntKind.wrap .u32 r61.1), 0, (([] : List T_api_Tuple)), (([] : List Int)), (([] : List Int)), 0, 0, 0, (([] : List Int))⟩ : T_api_Report)) ((⟨r61.2.b, r61.2.f_at, r61.2.bad⟩ : T_rtcp_reader)) u2 hu2 (.p (.slice none 0 0)) (SlF.nil dT_api_Tuple) (.p (.slice none 0 0)) (SlF.nil (dI .u32)) (.p (.slice none 0 0)) (SlF.nil (dI .i64)) (.p (.slice none 0 0)) (SlF.nil (dI .u8)) (0 :: 0 :: 0 :: σ) (.v (.p (.slice none 0 0))) (SoC.frz (SlF.nil dT_api_Tuple)) (fun v h => by cases h; simp) (.p (.slice none 0 0)) (SlF.nil (dI .u32)) (.p (.slice none 0 0)) (SlF.nil (dI .i64)) (.p (.slice none 0 0)) (SlF.nil (dI .u8)) (4 :: 0 :: 1 :: 0 :: σ) v66 h67 (2 :: 0 :: 1 :: 1 :: 1 :: 0 :: σ) H69 (S71.wk2 (all_cons (at_mem 2 rfl) (all_cons (at_mem 1 rfl) (all_cons (at_mem 0 rfl) all_nil))) all_nil)) 
          · intro r830_2 yg93 yg104 yg108 v833 h834 v835 h836 v837 h838 v839 h840 v841 h842 s843 c845 h846 h847 v848 h849 v850 h851 v852 h853 s854 v856 h857 s858 H831 S832
            refine Sim.ext (rtcp_parse_a0_1 _ _ _ _ _ _ _ _) ?_
            refine Sim.op (nilChk_ref _ _) ?_
            refine Sim.op (fA_ref _ _ _) ?_
            refine Sim.op ((S832.atG (i := 2) rfl).ld (j := 2) rfl) ?_
            refine Sim.op (asB_p _) ?_
            refine Sim.ch (P := fun r y => r = y) ?_ (fun b860 y861 h862 h863 => ?_)
            · refine Sim.cd (fun hc => ?_) (fun hc => ?_)
              · exact Sim.ret rfl rfl
              · refine Sim.op (fA_ref _ _ _) ?_
                refine Sim.op (h846.ld (S832.atG (i := 1) rfl) (j := 3) rfl) ?_
                refine Sim.op ((h846.sl (S832.atG (i := 1) rfl) (j := 3) rfl).len) ?_
                refine Sim.op (castI_p _ _) ?_
                exact Sim.ret rfl rfl
            subst h863
            refine Sim.op (nilChk_ref _ _) ?_
            refine Sim.op (fA_ref _ _ _) ?_
            obtain ⟨H864, e865, S866⟩ := S832.stG (i := 2) (j := 2) (own := true) (σ := (13 :: 1 :: 1 :: 1 :: 0 :: 1 :: 1 :: 1 :: 1 :: 1 :: 1 :: 0 :: σ)) (x := (.p (.bool b860))) rfl rfl (still_bool _) rfl
            refine Sim.op (st_map e865) ?_
            obtain ⟨v867, h868, h869⟩ := h846.fr
            obtain ⟨w870, H871, h876, e872, e873, e874, S875⟩ := S866.frzV (i := 1) (n := 10) (ys := [(.p (.int .i64 yg104.Kind)), (.p (.int .u32 yg104.From)), (.p (.int .u32 yg104.About)), v867, v848, v850, (.p (.int .u64 yg104.Rate)), (.p (.int .i64 yg104.f_Type)), (.p (.int .i64 yg104.Count)), v852]) rfl rfl ⟨(FrC.v (still_int _ _)), ⟨(FrC.v (still_int _ _)), ⟨(FrC.v (still_int _ _)), ⟨h868, ⟨(FrC.v h849.still), ⟨(FrC.v h851.still), ⟨(FrC.v (still_int _ _)), ⟨(FrC.v (still_int _ _)), ⟨(FrC.v (still_int _ _)), ⟨(FrC.v h853.still), trivial⟩⟩⟩⟩⟩⟩⟩⟩⟩⟩ rfl (by decide)
            refine Sim.op (e872) ?_
            refine Sim.op (nilChk_ref _ _) ?_
            refine Sim.op (fA_ref _ _ _) ?_
            refine Sim.op ((S866.atG (i := 2) rfl).ld (j := 2) rfl) ?_
            refine Sim.op (asB_p _) ?_
            refine Sim.cd (fun hc => ?_) (fun hc => ?_)
            · refine Sim.op (nilChk_ref _ _) ?_
              refine Sim.op (fA_ref _ _ _) ?_
              refine Sim.op ((S866.atG (i := 2) rfl).ld (j := 1) rfl) ?_
              refine Sim.op (castI_p _ _) ?_
              refine Sim.op ((h834.h H864).len) ?_
              refine Sim.op (castI_p _ _) ?_
              refine Sim.op rfl ?_
              obtain ⟨H877, e878, S879⟩ := Fm.stFrz (S0 := S866) (i0 := 0) (i := 0) (j := 0) (n := 10) (σ := (15 :: 0 :: 1 :: 1 :: 1 :: 1 :: 1 :: 1 :: 1 :: 0 :: σ)) S875 rfl e874 rfl rfl h876 rfl rfl
              refine Sim.op (st_map e878) ?_
              refine Sim.nd (rfl) ?_
              refine Sim.nd ((S879.atG (i := 2) rfl).ld (j := 1) rfl) ?_
              have e880 : ldO true 10 H877 (.ref ⟨h.length, 6, 0, s843, []⟩ 0) = some (.agg [.p (.int .i64 yg104.Kind), .p (.int .u32 yg104.From), .p (.int .u32 yg104.About), v867, v848, v850, .p (.int .u64 yg104.Rate), .p (.int .i64 yg104.f_Type), .p (.int .i64 yg104.Count), v852]) := (S879.atG (i := 0) rfl).ldVs (j := 0) (xs := [.p (.int .i64 yg104.Kind), .p (.int .u32 yg104.From), .p (.int .u32 yg104.About), v867, v848, v850, .p (.int .u64 yg104.Rate), .p (.int .i64 yg104.f_Type), .p (.int .i64 yg104.Count), v852]) rfl rfl (by decide)
              refine Sim.op (show _ = some [(.agg [.p (.int .i64 yg104.Kind), .p (.int .u32 yg104.From), .p (.int .u32 yg104.About), v867, v848, v850, .p (.int .u64 yg104.Rate), .p (.int .i64 yg104.f_Type), .p (.int .i64 yg104.Count), v852]), (.p (.bool (yg108.f_at == ((r830_2.length : Int)))))] from by simp only [e880, Option.bind_some, Option.map_some]) ?_
              exact Sim.fin (S879.finN (lv_cons (Stills.lv (dT_api_Report.still (dT_api_Report.mk h869 h849 h851 h853))) (lv_cons (still_bool _).lv lv_nil))) ⟨[.p (.int .i64 yg104.Kind), .p (.int .u32 yg104.From), .p (.int .u32 yg104.About), v867, v848, v850, .p (.int .u64 yg104.Rate), .p (.int .i64 yg104.f_Type), .p (.int .i64 yg104.Count), v852], (show dT_api_Report.R ((⟨yg104.Kind, yg104.From, yg104.About, yg104.Tuples, yg104.Abouts, yg104.Numbers, yg104.Rate, yg104.f_Type, yg104.Count, yg104.Body⟩ : T_api_Report)) [.p (.int .i64 yg104.Kind), .p (.int .u32 yg104.From), .p (.int .u32 yg104.About), v867, v848, v850, .p (.int .u64 yg104.Rate), .p (.int .i64 yg104.f_Type), .p (.int .i64 yg104.Count), v852] from (dT_api_Report.mk h869 h849 h851 h853)), rfl⟩
            · refine Sim.op rfl ?_
              obtain ⟨H881, e882, S883⟩ := Fm.stFrz (S0 := S866) (i0 := 0) (i := 0) (j := 0) (n := 10) (σ := (15 :: 0 :: 1 :: 1 :: 1 :: 1 :: 1 :: 1 :: 1 :: 0 :: σ)) S875 rfl e874 rfl rfl h876 rfl rfl
              refine Sim.op (st_map e882) ?_
              have e884 : ldO true 10 H881 (.ref ⟨h.length, 6, 0, s843, []⟩ 0) = some (.agg [.p (.int .i64 yg104.Kind), .p (.int .u32 yg104.From), .p (.int .u32 yg104.About), v867, v848, v850, .p (.int .u64 yg104.Rate), .p (.int .i64 yg104.f_Type), .p (.int .i64 yg104.Count), v852]) := (S883.atG (i := 0) rfl).ldVs (j := 0) (xs := [.p (.int .i64 yg104.Kind), .p (.int .u32 yg104.From), .p (.int .u32 yg104.About), v867, v848, v850, .p (.int .u64 yg104.Rate), .p (.int .i64 yg104.f_Type), .p (.int .i64 yg104.Count), v852]) rfl rfl (by decide)
              refine Sim.op (show _ = some [(.agg [.p (.int .i64 yg104.Kind), .p (.int .u32 yg104.From), .p (.int .u32 yg104.About), v867, v848, v850, .p (.int .u64 yg104.Rate), .p (.int .i64 yg104.f_Type), .p (.int .i64 yg104.Count), v852]), (.p (.bool false))] from by simp only [e884, Option.bind_some, Option.map_some]) ?_
              exact Sim.fin (S883.finN (lv_cons (Stills.lv (dT_api_Report.still (dT_api_Report.mk h869 h849 h851 h853))) (lv_cons (still_bool _).lv lv_nil))) ⟨[.p (.int .i64 yg104.Kind), .p (.int .u32 yg104.From), .p (.int .u32 yg104.About), v867, v848, v850, .p (.int .u64 yg104.Rate), .p (.int .i64 yg104.f_Type), .p (.int .i64 yg104.Count), v852], (show dT_api_Report.R ((⟨yg104.Kind, yg104.From, yg104.About, yg104.Tuples, yg104.Abouts, yg104.Numbers, yg104.Rate, yg104.f_Type, yg104.Count, yg104.Body⟩ : T_api_Report)) [.p (.int .i64 yg104.Kind), .p (.int .u32 yg104.From), .p (.int .u32 yg104.About), v867, v848, v850, .p (.int .u64 yg104.Rate), .p (.int .i64 yg104.f_Type), .p (.int .i64 yg104.Count), v852] from (dT_api_Report.mk h869 h849 h851 h853)), rfl⟩
        · refine Sim.cd (fun hc => ?_) (fun hc => ?_)
          · refine Sim.call (rtcp_reader_num_ok k (⟨r61.2.b, r61.2.f_at, r61.2.bad⟩ : T_rtcp_reader) h67 (S71.atG (i := 0) rfl) 4) fun r885 cs886 H887 h888 q889 => ?_
            obtain ⟨v890, h891, q889⟩ := q889
            cases q889
            have S892 := S71.setG (i := 0) (cs' := List.map C.v [v890, (.p (.int .i64 r885.2.f_at)), (.p (.bool r885.2.bad))]) rfl rfl rfl
            refine Sim.op (castI_p _ _) ?_
            refine Sim.op (fA_ref _ _ _) ?_
            obtain ⟨H893, e894, S895⟩ := S892.stG (i := 1) (j := 2) (own := true) (σ := (4 :: 1 :: 1 :: 1 :: 0 :: 1 :: 1 :: 1 :: 1 :: 1 :: 1 :: 0 :: σ)) (x := (.p (.int .u32 (IntKind.wrap .u32 r885.1)))) rfl rfl (still_int _ _) rfl
            refine Sim.op (st_map e894) ?_
            refine Sim.op ((S895.atG (i := 1) rfl).ldVs (j := 0) (xs := [.p (.int .i64 r5), .p (.int .u32 (IntKind.wrap .u32 r61.1)), .p (.int .u32 (IntKind.wrap .u32 r885.1)), .p (.slice none 0 0), .p (.slice none 0 0), .p (.slice none 0 0), .p (.int .u64 0), .p (.int .i64 0), .p (.int .i64 0), .p (.slice none 0 0)]) rfl rfl (by decide)) ?_
            refine Sim.op (nilChk_ref _ _) ?_
            refine Sim.op (fA_ref _ _ _) ?_
            refine Sim.op ((S895.atG (i := 0) rfl).ld (j := 2) rfl) ?_
            refine Sim.op (asB_p _) ?_
            refine Sim.cd (fun hc => ?_) (fun hc => ?_)
            · refine Sim.op (nilChk_ref _ _) ?_
              refine Sim.op (fA_ref _ _ _) ?_
              refine Sim.op ((S895.atG (i := 0) rfl).ld (j := 1) rfl) ?_
              refine Sim.op (castI_p _ _) ?_
              refine Sim.op ((hu2.h H893).len) ?_
              refine Sim.op (castI_p _ _) ?_
              refine Sim.op rfl ?_
              obtain ⟨H896, e897, S898⟩ := S895.stGv (i := 2) (j := 0) (own := false) (σ := (15 :: 0 :: 1 :: 1 :: 1 :: 1 :: 1 :: 1 :: 1 :: 0 :: σ)) (xs := [.p (.int .i64 r5), .p (.int .u32 (IntKind.wrap .u32 r61.1)), .p (.int .u32 (IntKind.wrap .u32 r885.1)), .p (.slice none 0 0), .p (.slice none 0 0), .p (.slice none 0 0), .p (.int .u64 0), .p (.int .i64 0), .p (.int .i64 0), .p (.slice none 0 0)]) rfl rfl (stills_cons (still_int _ _) (stills_cons (still_int _ _) (stills_cons (still_int _ _) (stills_cons (SlF.nil dT_api_Tuple).still (stills_cons (SlF.nil (dI .u32)).still (stills_cons (SlF.nil (dI .i64)).still (stills_cons (still_int _ _) (stills_cons (still_int _ _) (stills_cons (still_int _ _) (stills_cons (SlF.nil (dI .u8)).still stills_nil)))))))))) rfl rfl
              refine Sim.op (st_map e897) ?_
              refine Sim.nd (rfl) ?_
              refine Sim.nd ((S898.atG (i := 0) rfl).ld (j := 1) rfl) ?_
              have e899 : ldO true 10 H896 (.ref ⟨h.length, 6, 0, (0 :: 0 :: 0 :: σ), []⟩ 0) = some (.agg [.p (.int .i64 r5), .p (.int .u32 (IntKind.wrap .u32 r61.1)), .p (.int .u32 (IntKind.wrap .u32 r885.1)), .p (.slice none 0 0), .p (.slice none 0 0), .p (.slice none 0 0), .p (.int .u64 0), .p (.int .i64 0), .p (.int .i64 0), .p (.slice none 0 0)]) := (S898.atG (i := 2) rfl).ldVs (j := 0) (xs := [.p (.int .i64 r5), .p (.int .u32 (IntKind.wrap .u32 r61.1)), .p (.int .u32 (IntKind.wrap .u32 r885.1)), .p (.slice none 0 0), .p (.slice none 0 0), .p (.slice none 0 0), .p (.int .u64 0), .p (.int .i64 0), .p (.int .i64 0), .p (.slice none 0 0)]) rfl rfl (by decide)
              refine Sim.op (show _ = some [(.agg [.p (.int .i64 r5), .p (.int .u32 (IntKind.wrap .u32 r61.1)), .p (.int .u32 (IntKind.wrap .u32 r885.1)), .p (.slice none 0 0), .p (.slice none 0 0), .p (.slice none 0 0), .p (.int .u64 0), .p (.int .i64 0), .p (.int .i64 0), .p (.slice none 0 0)]), (.p (.bool (r885.2.f_at == ((x2.length : Int)))))] from by simp only [e899, Option.bind_some, Option.map_some]) ?_
              exact Sim.fin (S898.finN (lv_cons (Stills.lv (dT_api_Report.still (dT_api_Report.mk (SlF.nil dT_api_Tuple) (SlF.nil (dI .u32)) (SlF.nil (dI .i64)) (SlF.nil (dI .u8))))) (lv_cons (still_bool _).lv lv_nil))) ⟨[.p (.int .i64 r5), .p (.int .u32 (IntKind.wrap .u32 r61.1)), .p (.int .u32 (IntKind.wrap .u32 r885.1)), .p (.slice none 0 0), .p (.slice none 0 0), .p (.slice none 0 0), .p (.int .u64 0), .p (.int .i64 0), .p (.int .i64 0), .p (.slice none 0 0)], (show dT_api_Report.R ((⟨r5, (IntKind.wrap .u32 r61.1), (IntKind.wrap .u32 r885.1), (([] : List T_api_Tuple)), (([] : List Int)), (([] : List Int)), 0, 0, 0, (([] : List Int))⟩ : T_api_Report)) [.p (.int .i64 r5), .p (.int .u32 (IntKind.wrap .u32 r61.1)), .p (.int .u32 (IntKind.wrap .u32 r885.1)), .p (.slice none 0 0), .p (.slice none 0 0), .p (.slice none 0 0), .p (.int .u64 0), .p (.int .i64 0), .p (.int .i64 0), .p (.slice none 0 0)] from (dT_api_Report.mk (SlF.nil dT_api_Tuple) (SlF.nil (dI .u32)) (SlF.nil (dI .i64)) (SlF.nil (dI .u8)))), rfl⟩
            · refine Sim.op rfl ?_
              obtain ⟨H900, e901, S902⟩ := S895.stGv (i := 2) (j := 0) (own := false) (σ := (15 :: 0 :: 1 :: 1 :: 1 :: 1 :: 1 :: 1 :: 1 :: 0 :: σ)) (xs := [.p (.int .i64 r5), .p (.int .u32 (IntKind.wrap .u32 r61.1)), .p (.int .u32 (IntKind.wrap .u32 r885.1)), .p (.slice none 0 0), .p (.slice none 0 0), .p (.slice none 0 0), .p (.int .u64 0), .p (.int .i64 0), .p (.int .i64 0), .p (.slice none 0 0)]) rfl rfl (stills_cons (still_int _ _) (stills_cons (still_int _ _) (stills_cons (still_int _ _) (stills_cons (SlF.nil dT_api_Tuple).still (stills_cons (SlF.nil (dI .u32)).still (stills_cons (SlF.nil (dI .i64)).still (stills_cons (still_int _ _) (stills_cons (still_int _ _) (stills_cons (still_int _ _) (stills_cons (SlF.nil (dI .u8)).still stills_nil)))))))))) rfl rfl
              refine Sim.op (st_map e901) ?_
              have e903 : ldO true 10 H900 (.ref ⟨h.length, 6, 0, (0 :: 0 :: 0 :: σ), []⟩ 0) = some (.agg [.p (.int .i64 r5), .p (.int .u32 (IntKind.wrap .u32 r61.1)), .p (.int .u32 (IntKind.wrap .u32 r885.1)), .p (.slice none 0 0), .p (.slice none 0 0), .p (.slice none 0 0), .p (.int .u64 0), .p (.int .i64 0), .p (.int .i64 0), .p (.slice none 0 0)]) := (S902.atG (i := 2) rfl).ldVs (j := 0) (xs := [.p (.int .i64 r5), .p (.int .u32 (IntKind.wrap .u32 r61.1)), .p (.int .u32 (IntKind.wrap .u32 r885.1)), .p (.slice none 0 0), .p (.slice none 0 0), .p (.slice none 0 0), .p (.int .u64 0), .p (.int .i64 0), .p (.int .i64 0), .p (.slice none 0 0)]) rfl rfl (by decide)
              refine Sim.op (show _ = some [(.agg [.p (.int .i64 r5), .p (.int .u32 (IntKind.wrap .u32 r61.1)), .p (.int .u32 (IntKind.wrap .u32 r885.1)), .p (.slice none 0 0), .p (.slice none 0 0), .p (.slice none 0 0), .p (.int .u64 0), .p (.int .i64 0), .p (.int .i64 0), .p (.slice none 0 0)]), (.p (.bool false))] from by simp only [e903, Option.bind_some, Option.map_some]) ?_
              exact Sim.fin (S902.finN (lv_cons (Stills.lv (dT_api_Report.still (dT_api_Report.mk (SlF.nil dT_api_Tuple) (SlF.nil (dI .u32)) (SlF.nil (dI .i64)) (SlF.nil (dI .u8))))) (lv_cons (still_bool _).lv lv_nil))) ⟨[.p (.int .i64 r5), .p (.int .u32 (IntKind.wrap .u32 r61.1)), .p (.int .u32 (IntKind.wrap .u32 r885.1)), .p (.slice none 0 0), .p (.slice none 0 0), .p (.slice none 0 0), .p (.int .u64 0), .p (.int .i64 0), .p (.int .i64 0), .p (.slice none 0 0)], (show dT_api_Report.R ((⟨r5, (IntKind.wrap .u32 r61.1), (IntKind.wrap .u32 r885.1), (([] : List T_api_Tuple)), (([] : List Int)), (([] : List Int)), 0, 0, 0, (([] : List Int))⟩ : T_api_Report)) [.p (.int .i64 r5), .p (.int .u32 (IntKind.wrap .u32 r61.1)), .p (.int .u32 (IntKind.wrap .u32 r885.1)), .p (.slice none 0 0), .p (.slice none 0 0), .p (.slice none 0 0), .p (.int .u64 0), .p (.int .i64 0), .p (.int .i64 0), .p (.slice none 0 0)] from (dT_api_Report.mk (SlF.nil dT_api_Tuple) (SlF.nil (dI .u32)) (SlF.nil (dI .i64)) (SlF.nil (dI .u8)))), rfl⟩
          · refine Sim.cd (fun hc => ?_) (fun hc => ?_)
            · refine Sim.as (rtcp_parse_l1_ok ?_ k x2 ((⟨0, 0, 0, (([] : List T_api_Tuple)), (([] : List Int)), (([] : List Int)), 0, 0, 0, (([] : List Int))⟩ : T_api_Report)) ((⟨r5, (IntKind.wrap .u32 r61.1), 0, (([] : List T_api_Tuple)), (([] : List Int)), (([] : List Int)), 0, 0, 0, (([] : List Int))⟩ : T_api_Report)) ((⟨r61.2.b, r61.2.f_at, r61.2.bad⟩ : T_rtcp_reader)) u2 hu2 (.p (.slice none 0 0)) (SlF.nil dT_api_Tuple) (.p (.slice none 0 0)) (SlF.nil (dI .u32)) (.p (.slice none 0 0)) (SlF.nil (dI .i64)) (.p (.slice none 0 0)) (SlF.nil (dI .u8)) (0 :: 0 :: 0 :: σ) (.p (.slice none 0 0)) (SlF.nil dT_api_Tuple) (.v (.p (.slice none 0 0))) (SoC.frz (SlF.nil (dI .u32))) (fun v h => by cases h; simp) (.v (.p (.slice none 0 0))) (SoC.frz (SlF.nil (dI .i64))) (fun v h => by cases h; simp) (.p (.slice none 0 0)) (SlF.nil (dI .u8)) (4 :: 0 :: 1 :: 0 :: σ) v66 h67 (2 :: 0 :: 1 :: 1 :: 1 :: 0 :: σ) H69 (S71.wk2 (all_cons (at_mem 2 rfl) (all_cons (at_mem 1 rfl) (all_cons (at_mem 0 rfl) all_nil))) all_nil)) 
              · intro r904_2 yg255 yg267 yg271 v907 h908 v909 h910 v911 h912 v913 h914 v915 h916 s917 v919 h920 c921 h922 h923 c924 h925 h926 v927 h928 s929 v931 h932 s933 H905 S906
                refine Sim.ext (rtcp_parse_a1_3 _ _ _ _ _ _ _ _) ?_
                refine Sim.op (nilChk_ref _ _) ?_
                refine Sim.op (fA_ref _ _ _) ?_
                refine Sim.op ((S906.atG (i := 2) rfl).ld (j := 2) rfl) ?_
                refine Sim.op (asB_p _) ?_
                refine Sim.ch (P := fun r y => r = y) ?_ (fun b935 y936 h937 h938 => ?_)
                · refine Sim.cd (fun hc => ?_) (fun hc => ?_)
                  · exact Sim.ret rfl rfl
                  · refine Sim.op (fA_ref _ _ _) ?_
                    refine Sim.op (h922.ld (S906.atG (i := 1) rfl) (j := 4) rfl) ?_
                    refine Sim.op ((h922.sl (S906.atG (i := 1) rfl) (j := 4) rfl).len) ?_
                    refine Sim.op (castI_p _ _) ?_
                    exact Sim.ret rfl rfl
                subst h938
                refine Sim.ch (P := fun r y => r = y) ?_ (fun b939 y940 h941 h942 => ?_)
                · refine Sim.cd (fun hc => ?_) (fun hc => ?_)
                  · exact Sim.ret rfl rfl
                  · refine Sim.op (fA_ref _ _ _) ?_
                    refine Sim.op (h922.ld (S906.atG (i := 1) rfl) (j := 4) rfl) ?_
                    refine Sim.op ((h922.sl (S906.atG (i := 1) rfl) (j := 4) rfl).len) ?_
                    refine Sim.op (castI_p _ _) ?_
                    exact Sim.ret rfl rfl
                subst h942
                refine Sim.op (nilChk_ref _ _) ?_
                refine Sim.op (fA_ref _ _ _) ?_
                obtain ⟨H943, e944, S945⟩ := S906.stG (i := 2) (j := 2) (own := true) (σ := (19 :: 1 :: 1 :: 1 :: 1 :: 1 :: 0 :: 1 :: 1 :: 1 :: 1 :: 1 :: 1 :: 0 :: σ)) (x := (.p (.bool b939))) rfl rfl (still_bool _) rfl
                refine Sim.op (st_map e944) ?_
                obtain ⟨v946, h947, h948⟩ := h922.fr
                obtain ⟨v949, h950, h951⟩ := h925.fr
                obtain ⟨w952, H953, h958, e954, e955, e956, S957⟩ := S945.frzV (i := 1) (n := 10) (ys := [(.p (.int .i64 yg267.Kind)), (.p (.int .u32 yg267.From)), (.p (.int .u32 yg267.About)), v919, v946, v949, (.p (.int .u64 yg267.Rate)), (.p (.int .i64 yg267.f_Type)), (.p (.int .i64 yg267.Count)), v927]) rfl rfl ⟨(FrC.v (still_int _ _)), ⟨(FrC.v (still_int _ _)), ⟨(FrC.v (still_int _ _)), ⟨(FrC.v h920.still), ⟨h947, ⟨h950, ⟨(FrC.v (still_int _ _)), ⟨(FrC.v (still_int _ _)), ⟨(FrC.v (still_int _ _)), ⟨(FrC.v h928.still), trivial⟩⟩⟩⟩⟩⟩⟩⟩⟩⟩ rfl (by decide)
                refine Sim.op (e954) ?_
                refine Sim.op (nilChk_ref _ _) ?_
                refine Sim.op (fA_ref _ _ _) ?_
                refine Sim.op ((S945.atG (i := 2) rfl).ld (j := 2) rfl) ?_
                refine Sim.op (asB_p _) ?_
                refine Sim.cd (fun hc => ?_) (fun hc => ?_)
                · refine Sim.op (nilChk_ref _ _) ?_
                  refine Sim.op (fA_ref _ _ _) ?_
                  refine Sim.op ((S945.atG (i := 2) rfl).ld (j := 1) rfl) ?_
                  refine Sim.op (castI_p _ _) ?_
                  refine Sim.op ((h908.h H943).len) ?_
                  refine Sim.op (castI_p _ _) ?_
                  refine Sim.op rfl ?_
                  obtain ⟨H959, e960, S961⟩ := Fm.stFrz (S0 := S945) (i0 := 0) (i := 0) (j := 0) (n := 10) (σ := (15 :: 0 :: 1 :: 1 :: 1 :: 1 :: 1 :: 1 :: 1 :: 0 :: σ)) S957 rfl e956 rfl rfl h958 rfl rfl
                  refine Sim.op (st_map e960) ?_
                  refine Sim.nd (rfl) ?_
                  refine Sim.nd ((S961.atG (i := 2) rfl).ld (j := 1) rfl) ?_
                  have e962 : ldO true 10 H959 (.ref ⟨h.length, 6, 0, s917, []⟩ 0) = some (.agg [.p (.int .i64 yg267.Kind), .p (.int .u32 yg267.From), .p (.int .u32 yg267.About), v919, v946, v949, .p (.int .u64 yg267.Rate), .p (.int .i64 yg267.f_Type), .p (.int .i64 yg267.Count), v927]) := (S961.atG (i := 0) rfl).ldVs (j := 0) (xs := [.p (.int .i64 yg267.Kind), .p (.int .u32 yg267.From), .p (.int .u32 yg267.About), v919, v946, v949, .p (.int .u64 yg267.Rate), .p (.int .i64 yg267.f_Type), .p (.int .i64 yg267.Count), v927]) rfl rfl (by decide)
                  refine Sim.op (show _ = some [(.agg [.p (.int .i64 yg267.Kind), .p (.int .u32 yg267.From), .p (.int .u32 yg267.About), v919, v946, v949, .p (.int .u64 yg267.Rate), .p (.int .i64 yg267.f_Type), .p (.int .i64 yg267.Count), v927]), (.p (.bool (yg271.f_at == ((r904_2.length : Int)))))] from by simp only [e962, Option.bind_some, Option.map_some]) ?_
                  exact Sim.fin (S961.finN (lv_cons (Stills.lv (dT_api_Report.still (dT_api_Report.mk h920 h948 h951 h928))) (lv_cons (still_bool _).lv lv_nil))) ⟨[.p (.int .i64 yg267.Kind), .p (.int .u32 yg267.From), .p (.int .u32 yg267.About), v919, v946, v949, .p (.int .u64 yg267.Rate), .p (.int .i64 yg267.f_Type), .p (.int .i64 yg267.Count), v927], (show dT_api_Report.R ((⟨yg267.Kind, yg267.From, yg267.About, yg267.Tuples, yg267.Abouts, yg267.Numbers, yg267.Rate, yg267.f_Type, yg267.Count, yg267.Body⟩ : T_api_Report)) [.p (.int .i64 yg267.Kind), .p (.int .u32 yg267.From), .p (.int .u32 yg267.About), v919, v946, v949, .p (.int .u64 yg267.Rate), .p (.int .i64 yg267.f_Type), .p (.int .i64 yg267.Count), v927] from (dT_api_Report.mk h920 h948 h951 h928)), rfl⟩
                · refine Sim.op rfl ?_
                  obtain ⟨H963, e964, S965⟩ := Fm.stFrz (S0 := S945) (i0 := 0) (i := 0) (j := 0) (n := 10) (σ := (15 :: 0 :: 1 :: 1 :: 1 :: 1 :: 1 :: 1 :: 1 :: 0 :: σ)) S957 rfl e956 rfl rfl h958 rfl rfl
                  refine Sim.op (st_map e964) ?_
                  have e966 : ldO true 10 H963 (.ref ⟨h.length, 6, 0, s917, []⟩ 0) = some (.agg [.p (.int .i64 yg267.Kind), .p (.int .u32 yg267.From), .p (.int .u32 yg267.About), v919, v946, v949, .p (.int .u64 yg267.Rate), .p (.int .i64 yg267.f_Type), .p (.int .i64 yg267.Count), v927]) := (S965.atG (i := 0) rfl).ldVs (j := 0) (xs := [.p (.int .i64 yg267.Kind), .p (.int .u32 yg267.From), .p (.int .u32 yg267.About), v919, v946, v949, .p (.int .u64 yg267.Rate), .p (.int .i64 yg267.f_Type), .p (.int .i64 yg267.Count), v927]) rfl rfl (by decide)
                  refine Sim.op (show _ = some [(.agg [.p (.int .i64 yg267.Kind), .p (.int .u32 yg267.From), .p (.int .u32 yg267.About), v919, v946, v949, .p (.int .u64 yg267.Rate), .p (.int .i64 yg267.f_Type), .p (.int .i64 yg267.Count), v927]), (.p (.bool false))] from by simp only [e966, Option.bind_some, Option.map_some]) ?_
                  exact Sim.fin (S965.finN (lv_cons (Stills.lv (dT_api_Report.still (dT_api_Report.mk h920 h948 h951 h928))) (lv_cons (still_bool _).lv lv_nil))) ⟨[.p (.int .i64 yg267.Kind), .p (.int .u32 yg267.From), .p (.int .u32 yg267.About), v919, v946, v949, .p (.int .u64 yg267.Rate), .p (.int .i64 yg267.f_Type), .p (.int .i64 yg267.Count), v927], (show dT_api_Report.R ((⟨yg267.Kind, yg267.From, yg267.About, yg267.Tuples, yg267.Abouts, yg267.Numbers, yg267.Rate, yg267.f_Type, yg267.Count, yg267.Body⟩ : T_api_Report)) [.p (.int .i64 yg267.Kind), .p (.int .u32 yg267.From), .p (.int .u32 yg267.About), v919, v946, v949, .p (.int .u64 yg267.Rate), .p (.int .i64 yg267.f_Type), .p (.int .i64 yg267.Count), v927] from (dT_api_Report.mk h920 h948 h951 h928)), rfl⟩
            · refine Sim.cd (fun hc => ?_) (fun hc => ?_)
              · refine Sim.call (rtcp_reader_remb_ok k (⟨r61.2.b, r61.2.f_at, r61.2.bad⟩ : T_rtcp_reader) h67 (S71.atG (i := 0) rfl) (⟨r5, (IntKind.wrap .u32 r61.1), 0, (([] : List T_api_Tuple)), (([] : List Int)), (([] : List Int)), 0, 0, 0, (([] : List Int))⟩ : T_api_Report) (SlF.nil dT_api_Tuple) (SoC.frz (SlF.nil (dI .u32))) (fun v h => by cases h; simp) (SlF.nil (dI .i64)) (SlF.nil (dI .u8)) (S71.atG (i := 1) rfl) (by simp [Loc.key])) fun r967 cs968 H969 h970 q971 => ?_
                obtain ⟨v972, v974, c976, v979, v981, h973, h975, h977, h978, h980, h982, q971⟩ := q971
                cases q971
                have S983 := S71.setG (i := 1) (cs' := [.v (.p (.int .i64 r967.2.Kind)), .v (.p (.int .u32 r967.2.From)), .v (.p (.int .u32 r967.2.About)), .v v974, c976, .v v979, .v (.p (.int .u64 r967.2.Rate)), .v (.p (.int .i64 r967.2.f_Type)), .v (.p (.int .i64 r967.2.Count)), .v v981]) rfl rfl rfl
                have S984 := S983.setG (i := 0) (cs' := List.map C.v [v972, (.p (.int .i64 r967.1.f_at)), (.p (.bool r967.1.bad))]) rfl rfl rfl
                obtain ⟨v985, h986, h987⟩ := h977.fr
                obtain ⟨w988, H989, h994, e990, e991, e992, S993⟩ := S984.frzV (i := 1) (n := 10) (ys := [(.p (.int .i64 r967.2.Kind)), (.p (.int .u32 r967.2.From)), (.p (.int .u32 r967.2.About)), v974, v985, v979, (.p (.int .u64 r967.2.Rate)), (.p (.int .i64 r967.2.f_Type)), (.p (.int .i64 r967.2.Count)), v981]) rfl rfl ⟨(FrC.v (still_int _ _)), ⟨(FrC.v (still_int _ _)), ⟨(FrC.v (still_int _ _)), ⟨(FrC.v h975.still), ⟨h986, ⟨(FrC.v h980.still), ⟨(FrC.v (still_int _ _)), ⟨(FrC.v (still_int _ _)), ⟨(FrC.v (still_int _ _)), ⟨(FrC.v h982.still), trivial⟩⟩⟩⟩⟩⟩⟩⟩⟩⟩ rfl (by decide)
                refine Sim.op (e990) ?_
                refine Sim.op (nilChk_ref _ _) ?_
                refine Sim.op (fA_ref _ _ _) ?_
                refine Sim.op ((S984.atG (i := 0) rfl).ld (j := 2) rfl) ?_
                refine Sim.op (asB_p _) ?_
                refine Sim.cd (fun hc => ?_) (fun hc => ?_)
                · refine Sim.op (nilChk_ref _ _) ?_
                  refine Sim.op (fA_ref _ _ _) ?_
                  refine Sim.op ((S984.atG (i := 0) rfl).ld (j := 1) rfl) ?_
                  refine Sim.op (castI_p _ _) ?_
                  refine Sim.op ((hu2.h (ptC (ptC H69 ⟨h.length, 8, 0, (4 :: 0 :: 1 :: 0 :: σ), []⟩ 0 ([.v (.p (.int .i64 r967.2.Kind)), .v (.p (.int .u32 r967.2.From)), .v (.p (.int .u32 r967.2.About)), .v v974, c976, .v v979, .v (.p (.int .u64 r967.2.Rate)), .v (.p (.int .i64 r967.2.f_Type)), .v (.p (.int .i64 r967.2.Count)), .v v981])) ⟨h.length, 27, 0, (2 :: 0 :: 1 :: 1 :: 1 :: 0 :: σ), []⟩ 0 (List.map C.v [v972, (.p (.int .i64 r967.1.f_at)), (.p (.bool r967.1.bad))]))).len) ?_
                  refine Sim.op (castI_p _ _) ?_
                  refine Sim.op rfl ?_
                  obtain ⟨H995, e996, S997⟩ := Fm.stFrz (S0 := S984) (i0 := 2) (i := 2) (j := 0) (n := 10) (σ := (15 :: 0 :: 1 :: 1 :: 1 :: 1 :: 1 :: 1 :: 1 :: 0 :: σ)) S993 rfl e992 rfl rfl h994 rfl rfl
                  refine Sim.op (st_map e996) ?_
                  refine Sim.nd (rfl) ?_
                  refine Sim.nd ((S997.atG (i := 0) rfl).ld (j := 1) rfl) ?_
                  have e998 : ldO true 10 H995 (.ref ⟨h.length, 6, 0, (0 :: 0 :: 0 :: σ), []⟩ 0) = some (.agg [.p (.int .i64 r967.2.Kind), .p (.int .u32 r967.2.From), .p (.int .u32 r967.2.About), v974, v985, v979, .p (.int .u64 r967.2.Rate), .p (.int .i64 r967.2.f_Type), .p (.int .i64 r967.2.Count), v981]) := (S997.atG (i := 2) rfl).ldVs (j := 0) (xs := [.p (.int .i64 r967.2.Kind), .p (.int .u32 r967.2.From), .p (.int .u32 r967.2.About), v974, v985, v979, .p (.int .u64 r967.2.Rate), .p (.int .i64 r967.2.f_Type), .p (.int .i64 r967.2.Count), v981]) rfl rfl (by decide)
                  refine Sim.op (show _ = some [(.agg [.p (.int .i64 r967.2.Kind), .p (.int .u32 r967.2.From), .p (.int .u32 r967.2.About), v974, v985, v979, .p (.int .u64 r967.2.Rate), .p (.int .i64 r967.2.f_Type), .p (.int .i64 r967.2.Count), v981]), (.p (.bool (r967.1.f_at == ((x2.length : Int)))))] from by simp only [e998, Option.bind_some, Option.map_some]) ?_
                  exact Sim.fin (S997.finN (lv_cons (Stills.lv (dT_api_Report.still (dT_api_Report.mk h975 h987 h980 h982))) (lv_cons (still_bool _).lv lv_nil))) ⟨[.p (.int .i64 r967.2.Kind), .p (.int .u32 r967.2.From), .p (.int .u32 r967.2.About), v974, v985, v979, .p (.int .u64 r967.2.Rate), .p (.int .i64 r967.2.f_Type), .p (.int .i64 r967.2.Count), v981], (show dT_api_Report.R ((⟨r967.2.Kind, r967.2.From, r967.2.About, r967.2.Tuples, r967.2.Abouts, r967.2.Numbers, r967.2.Rate, r967.2.f_Type, r967.2.Count, r967.2.Body⟩ : T_api_Report)) [.p (.int .i64 r967.2.Kind), .p (.int .u32 r967.2.From), .p (.int .u32 r967.2.About), v974, v985, v979, .p (.int .u64 r967.2.Rate), .p (.int .i64 r967.2.f_Type), .p (.int .i64 r967.2.Count), v981] from (dT_api_Report.mk h975 h987 h980 h982)), rfl⟩
                · refine Sim.op rfl ?_
                  obtain ⟨H999, e1000, S1001⟩ := Fm.stFrz (S0 := S984) (i0 := 2) (i := 2) (j := 0) (n := 10) (σ := (15 :: 0 :: 1 :: 1 :: 1 :: 1 :: 1 :: 1 :: 1 :: 0 :: σ)) S993 rfl e992 rfl rfl h994 rfl rfl
                  refine Sim.op (st_map e1000) ?_
                  have e1002 : ldO true 10 H999 (.ref ⟨h.length, 6, 0, (0 :: 0 :: 0 :: σ), []⟩ 0) = some (.agg [.p (.int .i64 r967.2.Kind), .p (.int .u32 r967.2.From), .p (.int .u32 r967.2.About), v974, v985, v979, .p (.int .u64 r967.2.Rate), .p (.int .i64 r967.2.f_Type), .p (.int .i64 r967.2.Count), v981]) := (S1001.atG (i := 2) rfl).ldVs (j := 0) (xs := [.p (.int .i64 r967.2.Kind), .p (.int .u32 r967.2.From), .p (.int .u32 r967.2.About), v974, v985, v979, .p (.int .u64 r967.2.Rate), .p (.int .i64 r967.2.f_Type), .p (.int .i64 r967.2.Count), v981]) rfl rfl (by decide)
                  refine Sim.op (show _ = some [(.agg [.p (.int .i64 r967.2.Kind), .p (.int .u32 r967.2.From), .p (.int .u32 r967.2.About), v974, v985, v979, .p (.int .u64 r967.2.Rate), .p (.int .i64 r967.2.f_Type), .p (.int .i64 r967.2.Count), v981]), (.p (.bool false))] from by simp only [e1002, Option.bind_some, Option.map_some]) ?_
                  exact Sim.fin (S1001.finN (lv_cons (Stills.lv (dT_api_Report.still (dT_api_Report.mk h975 h987 h980 h982))) (lv_cons (still_bool _).lv lv_nil))) ⟨[.p (.int .i64 r967.2.Kind), .p (.int .u32 r967.2.From), .p (.int .u32 r967.2.About), v974, v985, v979, .p (.int .u64 r967.2.Rate), .p (.int .i64 r967.2.f_Type), .p (.int .i64 r967.2.Count), v981], (show dT_api_Report.R ((⟨r967.2.Kind, r967.2.From, r967.2.About, r967.2.Tuples, r967.2.Abouts, r967.2.Numbers, r967.2.Rate, r967.2.f_Type, r967.2.Count, r967.2.Body⟩ : T_api_Report)) [.p (.int .i64 r967.2.Kind), .p (.int .u32 r967.2.From), .p (.int .u32 r967.2.About), v974, v985, v979, .p (.int .u64 r967.2.Rate), .p (.int .i64 r967.2.f_Type), .p (.int .i64 r967.2.Count), v981] from (dT_api_Report.mk h975 h987 h980 h982)), rfl⟩
              · refine Sim.op ((S71.atG (i := 1) rfl).ldVs (j := 0) (xs := [.p (.int .i64 r5), .p (.int .u32 (IntKind.wrap .u32 r61.1)), .p (.int .u32 0), .p (.slice none 0 0), .p (.slice none 0 0), .p (.slice none 0 0), .p (.int .u64 0), .p (.int .i64 0), .p (.int .i64 0), .p (.slice none 0 0)]) rfl rfl (by decide)) ?_
                refine Sim.op (nilChk_ref _ _) ?_
                refine Sim.op (fA_ref _ _ _) ?_
                refine Sim.op ((S71.atG (i := 0) rfl).ld (j := 2) rfl) ?_
                refine Sim.op (asB_p _) ?_
                refine Sim.cd (fun hc => ?_) (fun hc => ?_)
                · refine Sim.op (nilChk_ref _ _) ?_
                  refine Sim.op (fA_ref _ _ _) ?_
                  refine Sim.op ((S71.atG (i := 0) rfl).ld (j := 1) rfl) ?_
                  refine Sim.op (castI_p _ _) ?_
                  refine Sim.op ((hu2.h H69).len) ?_
                  refine Sim.op (castI_p _ _) ?_
                  refine Sim.op rfl ?_
                  obtain ⟨H1003, e1004, S1005⟩ := S71.stGv (i := 2) (j := 0) (own := false) (σ := (15 :: 0 :: 1 :: 1 :: 1 :: 1 :: 1 :: 1 :: 1 :: 0 :: σ)) (xs := [.p (.int .i64 r5), .p (.int .u32 (IntKind.wrap .u32 r61.1)), .p (.int .u32 0), .p (.slice none 0 0), .p (.slice none 0 0), .p (.slice none 0 0), .p (.int .u64 0), .p (.int .i64 0), .p (.int .i64 0), .p (.slice none 0 0)]) rfl rfl (stills_cons (still_int _ _) (stills_cons (still_int _ _) (stills_cons (still_int _ _) (stills_cons (SlF.nil dT_api_Tuple).still (stills_cons (SlF.nil (dI .u32)).still (stills_cons (SlF.nil (dI .i64)).still (stills_cons (still_int _ _) (stills_cons (still_int _ _) (stills_cons (still_int _ _) (stills_cons (SlF.nil (dI .u8)).still stills_nil)))))))))) rfl rfl
                  refine Sim.op (st_map e1004) ?_
                  refine Sim.nd (rfl) ?_
                  refine Sim.nd ((S1005.atG (i := 0) rfl).ld (j := 1) rfl) ?_
                  have e1006 : ldO true 10 H1003 (.ref ⟨h.length, 6, 0, (0 :: 0 :: 0 :: σ), []⟩ 0) = some (.agg [.p (.int .i64 r5), .p (.int .u32 (IntKind.wrap .u32 r61.1)), .p (.int .u32 0), .p (.slice none 0 0), .p (.slice none 0 0), .p (.slice none 0 0), .p (.int .u64 0), .p (.int .i64 0), .p (.int .i64 0), .p (.slice none 0 0)]) := (S1005.atG (i := 2) rfl).ldVs (j := 0) (xs := [.p (.int .i64 r5), .p (.int .u32 (IntKind.wrap .u32 r61.1)), .p (.int .u32 0), .p (.slice none 0 0), .p (.slice none 0 0), .p (.slice none 0 0), .p (.int .u64 0), .p (.int .i64 0), .p (.int .i64 0), .p (.slice none 0 0)]) rfl rfl (by decide)
                  refine Sim.op (show _ = some [(.agg [.p (.int .i64 r5), .p (.int .u32 (IntKind.wrap .u32 r61.1)), .p (.int .u32 0), .p (.slice none 0 0), .p (.slice none 0 0), .p (.slice none 0 0), .p (.int .u64 0), .p (.int .i64 0), .p (.int .i64 0), .p (.slice none 0 0)]), (.p (.bool (r61.2.f_at == ((x2.length : Int)))))] from by simp only [e1006, Option.bind_some, Option.map_some]) ?_
                  exact Sim.fin (S1005.finN (lv_cons (Stills.lv (dT_api_Report.still (dT_api_Report.mk (SlF.nil dT_api_Tuple) (SlF.nil (dI .u32)) (SlF.nil (dI .i64)) (SlF.nil (dI .u8))))) (lv_cons (still_bool _).lv lv_nil))) ⟨[.p (.int .i64 r5), .p (.int .u32 (IntKind.wrap .u32 r61.1)), .p (.int .u32 0), .p (.slice none 0 0), .p (.slice none 0 0), .p (.slice none 0 0), .p (.int .u64 0), .p (.int .i64 0), .p (.int .i64 0), .p (.slice none 0 0)], (show dT_api_Report.R ((⟨r5, (IntKind.wrap .u32 r61.1), 0, (([] : List T_api_Tuple)), (([] : List Int)), (([] : List Int)), 0, 0, 0, (([] : List Int))⟩ : T_api_Report)) [.p (.int .i64 r5), .p (.int .u32 (IntKind.wrap .u32 r61.1)), .p (.int .u32 0), .p (.slice none 0 0), .p (.slice none 0 0), .p (.slice none 0 0), .p (.int .u64 0), .p (.int .i64 0), .p (.int .i64 0), .p (.slice none 0 0)] from (dT_api_Report.mk (SlF.nil dT_api_Tuple) (SlF.nil (dI .u32)) (SlF.nil (dI .i64)) (SlF.nil (dI .u8)))), rfl⟩
                · refine Sim.op rfl ?_
                  obtain ⟨H1007, e1008, S1009⟩ := S71.stGv (i := 2) (j := 0) (own := false) (σ := (15 :: 0 :: 1 :: 1 :: 1 :: 1 :: 1 :: 1 :: 1 :: 0 :: σ)) (xs := [.p (.int .i64 r5), .p (.int .u32 (IntKind.wrap .u32 r61.1)), .p (.int .u32 0), .p (.slice none 0 0), .p (.slice none 0 0), .p (.slice none 0 0), .p (.int .u64 0), .p (.int .i64 0), .p (.int .i64 0), .p (.slice none 0 0)]) rfl rfl (stills_cons (still_int _ _) (stills_cons (still_int _ _) (stills_cons (still_int _ _) (stills_cons (SlF.nil dT_api_Tuple).still (stills_cons (SlF.nil (dI .u32)).still (stills_cons (SlF.nil (dI .i64)).still (stills_cons (still_int _ _) (stills_cons (still_int _ _) (stills_cons (still_int _ _) (stills_cons (SlF.nil (dI .u8)).still stills_nil)))))))))) rfl rfl
                  refine Sim.op (st_map e1008) ?_
                  have e1010 : ldO true 10 H1007 (.ref ⟨h.length, 6, 0, (0 :: 0 :: 0 :: σ), []⟩ 0) = some (.agg [.p (.int .i64 r5), .p (.int .u32 (IntKind.wrap .u32 r61.1)), .p (.int .u32 0), .p (.slice none 0 0), .p (.slice none 0 0), .p (.slice none 0 0), .p (.int .u64 0), .p (.int .i64 0), .p (.int .i64 0), .p (.slice none 0 0)]) := (S1009.atG (i := 2) rfl).ldVs (j := 0) (xs := [.p (.int .i64 r5), .p (.int .u32 (IntKind.wrap .u32 r61.1)), .p (.int .u32 0), .p (.slice none 0 0), .p (.slice none 0 0), .p (.slice none 0 0), .p (.int .u64 0), .p (.int .i64 0), .p (.int .i64 0), .p (.slice none 0 0)]) rfl rfl (by decide)
                  refine Sim.op (show _ = some [(.agg [.p (.int .i64 r5), .p (.int .u32 (IntKind.wrap .u32 r61.1)), .p (.int .u32 0), .p (.slice none 0 0), .p (.slice none 0 0), .p (.slice none 0 0), .p (.int .u64 0), .p (.int .i64 0), .p (.int .i64 0), .p (.slice none 0 0)]), (.p (.bool false))] from by simp only [e1010, Option.bind_some, Option.map_some]) ?_
                  exact Sim.fin (S1009.finN (lv_cons (Stills.lv (dT_api_Report.still (dT_api_Report.mk (SlF.nil dT_api_Tuple) (SlF.nil (dI .u32)) (SlF.nil (dI .i64)) (SlF.nil (dI .u8))))) (lv_cons (still_bool _).lv lv_nil))) ⟨[.p (.int .i64 r5), .p (.int .u32 (IntKind.wrap .u32 r61.1)), .p (.int .u32 0), .p (.slice none 0 0), .p (.slice none 0 0), .p (.slice none 0 0), .p (.int .u64 0), .p (.int .i64 0), .p (.int .i64 0), .p (.slice none 0 0)], (show dT_api_Report.R ((⟨r5, (IntKind.wrap .u32 r61.1), 0, (([] : List T_api_Tuple)), (([] : List Int)), (([] : List Int)), 0, 0, 0, (([] : List Int))⟩ : T_api_Report)) [.p (.int .i64 r5), .p (.int .u32 (IntKind.wrap .u32 r61.1)), .p (.int .u32 0), .p (.slice none 0 0), .p (.slice none 0 0), .p (.slice none 0 0), .p (.int .u64 0), .p (.int .i64 0), .p (.int .i64 0), .p (.slice none 0 0)] from (dT_api_Report.mk (SlF.nil dT_api_Tuple) (SlF.nil (dI .u32)) (SlF.nil (dI .i64)) (SlF.nil (dI .u8)))), rfl⟩
end Go.Ev
/- Lifted by lift.py: rtcp_one as a plain function. -/
namespace Go.Ev
open Go.Proofs
set_option linter.unusedVariables false
set_option linter.unusedSimpArgs false
set_option maxRecDepth 100000
def p_rtcp_one (k : Nat) (x0 : (List Int)) : Option (T_api_Report × Int × Int) :=
bif decide (((x0.length : Int)) < 4) then (
some (((⟨0, 0, 0, (([] : List T_api_Tuple)), (([] : List Int)), (([] : List Int)), 0, 0, 0, (([] : List Int))⟩ : T_api_Report)), 0, 13))
else (
(p_octet_Get k x0 2 2).bind fun r9 =>
bif decide ((IntKind.wrap .i64 (4 + (IntKind.wrap .i64 (4 * (IntKind.wrap .i64 r9.1))))) > ((x0.length : Int))) then (
some (((⟨0, 0, 0, (([] : List T_api_Tuple)), (([] : List Int)), (([] : List Int)), 0, 0, 0, (([] : List Int))⟩ : T_api_Report)), 0, 13))
else (
(ix x0 0).bind fun a18 =>
(bif (intBits .and .u8 a18 192) != 128 then (some true) else ((ix x0 0).bind fun a21 =>
some ((intBits .and .u8 a21 32) != 0))).bind fun b24 =>
(bif b24 then (some true) else ((ix x0 1).bind fun a28 =>
some (decide (a28 < 192)))).bind fun b31 =>
(bif b31 then (some true) else ((ix x0 1).bind fun a35 =>
some (decide (a35 > 223)))).bind fun b38 =>
bif b38 then (
some (((⟨0, 0, 0, (([] : List T_api_Tuple)), (([] : List Int)), (([] : List Int)), 0, 0, 0, (([] : List Int))⟩ : T_api_Report)), 0, 12))
else (
(ix x0 1).bind fun a48 =>
(ix x0 0).bind fun a51 =>
(sub x0 4 (IntKind.wrap .i64 (4 + (IntKind.wrap .i64 (4 * (IntKind.wrap .i64 r9.1)))))).bind fun a54 =>
(p_rtcp_parse k (IntKind.wrap .i64 a48) (IntKind.wrap .i64 (intBits .and .u8 a51 31)) a54).bind fun r56 =>
bif !r56.2 then (
some (((⟨0, 0, 0, (([] : List T_api_Tuple)), (([] : List Int)), (([] : List Int)), 0, 0, 0, (([] : List Int))⟩ : T_api_Report)), 0, 12))
else (
some (((⟨r56.1.Kind, r56.1.From, r56.1.About, r56.1.Tuples, r56.1.Abouts, r56.1.Numbers, r56.1.Rate, r56.1.f_Type, r56.1.Count, r56.1.Body⟩ : T_api_Report)), (IntKind.wrap .i64 (4 + (IntKind.wrap .i64 (4 * (IntKind.wrap .i64 r9.1))))), 0)))))
theorem rtcp_one_ok (k : Nat) {h : H} {σ : Stamp} (x0 : List Int) {u0 : V} (hu0 : SlF (dI .u8) x0 u0) : Sim (p_rtcp_one k x0) (ev G X0 59 σ [u0] h) (fun r s => ∃ (w0 : List V), dT_api_Report.R r.1 w0 ∧ s = ([.v (.agg w0), .v (.p (.int .i64 r.2.1)), .v (.p (.int .i64 r.2.2))], h)) := by
  refine Sim.ev rfl (Sim.ext (rtcp_one_entry _ _ _ _ _) ?_)
  rw [p_rtcp_one]
  have S0 : Fm 76 h [] [] [] (List.replicate 76 [] :: h) := Fm.start0
  obtain ⟨H1, e2, S3⟩ := S0.al (d := 2) (s := (0 :: 0 :: 0 :: σ)) (z := [(.p (.int .i64 0)), (.p (.int .u32 0)), (.p (.int .u32 0)), (.p (.slice none 0 0)), (.p (.slice none 0 0)), (.p (.slice none 0 0)), (.p (.int .u64 0)), (.p (.int .i64 0)), (.p (.int .i64 0)), (.p (.slice none 0 0))]) (by decide) rfl
  refine Sim.op (congrArg some e2) ?_
  refine Sim.op ((hu0.h H1).len) ?_
  refine Sim.op (castI_p _ _) ?_
  refine Sim.cd (fun hc => ?_) (fun hc => ?_)
  · refine Sim.op (bldV pt_nil (by kernel_rfl : _ = some (.agg [.p (.int .i64 0), .p (.int .u32 0), .p (.int .u32 0), .p (.slice none 0 0), .p (.slice none 0 0), .p (.slice none 0 0), .p (.int .u64 0), .p (.int .i64 0), .p (.int .i64 0), .p (.slice none 0 0)]))) ?_
    obtain ⟨H5, e6, S7⟩ := S3.stGv (i := 0) (j := 0) (own := false) (σ := (1 :: 0 :: 1 :: 0 :: 1 :: 0 :: σ)) (xs := [.p (.int .i64 0), .p (.int .u32 0), .p (.int .u32 0), .p (.slice none 0 0), .p (.slice none 0 0), .p (.slice none 0 0), .p (.int .u64 0), .p (.int .i64 0), .p (.int .i64 0), .p (.slice none 0 0)]) rfl rfl (stills_cons (still_int _ _) (stills_cons (still_int _ _) (stills_cons (still_int _ _) (stills_cons (SlF.nil dT_api_Tuple).still (stills_cons (SlF.nil (dI .u32)).still (stills_cons (SlF.nil (dI .i64)).still (stills_cons (still_int _ _) (stills_cons (still_int _ _) (stills_cons (still_int _ _) (stills_cons (SlF.nil (dI .u8)).still stills_nil)))))))))) rfl rfl
    refine Sim.op (st_map e6) ?_
    have e8 : ldO true 10 H5 (.ref ⟨h.length, 2, 0, (0 :: 0 :: 0 :: σ), []⟩ 0) = some (.agg [.p (.int .i64 0), .p (.int .u32 0), .p (.int .u32 0), .p (.slice none 0 0), .p (.slice none 0 0), .p (.slice none 0 0), .p (.int .u64 0), .p (.int .i64 0), .p (.int .i64 0), .p (.slice none 0 0)]) := (S7.atG (i := 0) rfl).ldVs (j := 0) (xs := [.p (.int .i64 0), .p (.int .u32 0), .p (.int .u32 0), .p (.slice none 0 0), .p (.slice none 0 0), .p (.slice none 0 0), .p (.int .u64 0), .p (.int .i64 0), .p (.int .i64 0), .p (.slice none 0 0)]) rfl rfl (by decide)
    refine Sim.op (show _ = some [(.agg [.p (.int .i64 0), .p (.int .u32 0), .p (.int .u32 0), .p (.slice none 0 0), .p (.slice none 0 0), .p (.slice none 0 0), .p (.int .u64 0), .p (.int .i64 0), .p (.int .i64 0), .p (.slice none 0 0)]), (.p (.int .i64 0)), (.p (.int .i64 13))] from by simp only [e8, Option.bind_some, Option.map_some]) ?_
    exact Sim.fin (S7.finN (lv_cons (Stills.lv (dT_api_Report.still (dT_api_Report.mk (SlF.nil dT_api_Tuple) (SlF.nil (dI .u32)) (SlF.nil (dI .i64)) (SlF.nil (dI .u8))))) (lv_cons (still_int _ _).lv (lv_cons (still_int _ _).lv lv_nil)))) ⟨[.p (.int .i64 0), .p (.int .u32 0), .p (.int .u32 0), .p (.slice none 0 0), .p (.slice none 0 0), .p (.slice none 0 0), .p (.int .u64 0), .p (.int .i64 0), .p (.int .i64 0), .p (.slice none 0 0)], (show dT_api_Report.R ((⟨0, 0, 0, (([] : List T_api_Tuple)), (([] : List Int)), (([] : List Int)), 0, 0, 0, (([] : List Int))⟩ : T_api_Report)) [.p (.int .i64 0), .p (.int .u32 0), .p (.int .u32 0), .p (.slice none 0 0), .p (.slice none 0 0), .p (.slice none 0 0), .p (.int .u64 0), .p (.int .i64 0), .p (.int .i64 0), .p (.slice none 0 0)] from (dT_api_Report.mk (SlF.nil dT_api_Tuple) (SlF.nil (dI .u32)) (SlF.nil (dI .i64)) (SlF.nil (dI .u8)))), rfl⟩
  · refine Sim.call (octet_Get_ok k x0 (hu0.h H1) 2 2) fun r9 cs10 H11 h12 q13 => ?_
    cases q13
    refine Sim.op (rfl) ?_
    refine Sim.op (castI_p _ _) ?_
    refine Sim.op (rfl) ?_
    refine Sim.op (asB_p _) ?_
    refine Sim.op ((hu0.h H1).len) ?_
    refine Sim.op (castI_p _ _) ?_
    refine Sim.cd (fun hc => ?_) (fun hc => ?_)
    · refine Sim.op (bldV pt_nil (by kernel_rfl : _ = some (.agg [.p (.int .i64 0), .p (.int .u32 0), .p (.int .u32 0), .p (.slice none 0 0), .p (.slice none 0 0), .p (.slice none 0 0), .p (.int .u64 0), .p (.int .i64 0), .p (.int .i64 0), .p (.slice none 0 0)]))) ?_
      obtain ⟨H14, e15, S16⟩ := S3.stGv (i := 0) (j := 0) (own := false) (σ := (1 :: 0 :: 1 :: 0 :: 1 :: 1 :: 1 :: 1 :: 0 :: σ)) (xs := [.p (.int .i64 0), .p (.int .u32 0), .p (.int .u32 0), .p (.slice none 0 0), .p (.slice none 0 0), .p (.slice none 0 0), .p (.int .u64 0), .p (.int .i64 0), .p (.int .i64 0), .p (.slice none 0 0)]) rfl rfl (stills_cons (still_int _ _) (stills_cons (still_int _ _) (stills_cons (still_int _ _) (stills_cons (SlF.nil dT_api_Tuple).still (stills_cons (SlF.nil (dI .u32)).still (stills_cons (SlF.nil (dI .i64)).still (stills_cons (still_int _ _) (stills_cons (still_int _ _) (stills_cons (still_int _ _) (stills_cons (SlF.nil (dI .u8)).still stills_nil)))))))))) rfl rfl
      refine Sim.op (st_map e15) ?_
      have e17 : ldO true 10 H14 (.ref ⟨h.length, 2, 0, (0 :: 0 :: 0 :: σ), []⟩ 0) = some (.agg [.p (.int .i64 0), .p (.int .u32 0), .p (.int .u32 0), .p (.slice none 0 0), .p (.slice none 0 0), .p (.slice none 0 0), .p (.int .u64 0), .p (.int .i64 0), .p (.int .i64 0), .p (.slice none 0 0)]) := (S16.atG (i := 0) rfl).ldVs (j := 0) (xs := [.p (.int .i64 0), .p (.int .u32 0), .p (.int .u32 0), .p (.slice none 0 0), .p (.slice none 0 0), .p (.slice none 0 0), .p (.int .u64 0), .p (.int .i64 0), .p (.int .i64 0), .p (.slice none 0 0)]) rfl rfl (by decide)
      refine Sim.op (show _ = some [(.agg [.p (.int .i64 0), .p (.int .u32 0), .p (.int .u32 0), .p (.slice none 0 0), .p (.slice none 0 0), .p (.slice none 0 0), .p (.int .u64 0), .p (.int .i64 0), .p (.int .i64 0), .p (.slice none 0 0)]), (.p (.int .i64 0)), (.p (.int .i64 13))] from by simp only [e17, Option.bind_some, Option.map_some]) ?_
      exact Sim.fin (S16.finN (lv_cons (Stills.lv (dT_api_Report.still (dT_api_Report.mk (SlF.nil dT_api_Tuple) (SlF.nil (dI .u32)) (SlF.nil (dI .i64)) (SlF.nil (dI .u8))))) (lv_cons (still_int _ _).lv (lv_cons (still_int _ _).lv lv_nil)))) ⟨[.p (.int .i64 0), .p (.int .u32 0), .p (.int .u32 0), .p (.slice none 0 0), .p (.slice none 0 0), .p (.slice none 0 0), .p (.int .u64 0), .p (.int .i64 0), .p (.int .i64 0), .p (.slice none 0 0)], (show dT_api_Report.R ((⟨0, 0, 0, (([] : List T_api_Tuple)), (([] : List Int)), (([] : List Int)), 0, 0, 0, (([] : List Int))⟩ : T_api_Report)) [.p (.int .i64 0), .p (.int .u32 0), .p (.int .u32 0), .p (.slice none 0 0), .p (.slice none 0 0), .p (.slice none 0 0), .p (.int .u64 0), .p (.int .i64 0), .p (.int .i64 0), .p (.slice none 0 0)] from (dT_api_Report.mk (SlF.nil dT_api_Tuple) (SlF.nil (dI .u32)) (SlF.nil (dI .i64)) (SlF.nil (dI .u8)))), rfl⟩
    · refine Sim.bd fun a18 h19 => ?_
      refine Sim.op ((hu0.h H1).iS h19 rfl) ?_
      obtain ⟨_, rfl, hE20⟩ := (hu0.h H1).el h19 rfl
      refine Sim.op (hE20.ld (j := 0) rfl) ?_
      refine Sim.op (castI_p _ _) ?_
      refine Sim.ch (P := fun r y => r = y) ?_ (fun b24 y25 h26 h27 => ?_)
      · refine Sim.cd (fun hc => ?_) (fun hc => ?_)
        · exact Sim.ret rfl rfl
        · refine Sim.bd fun a21 h22 => ?_
          refine Sim.op ((hu0.h H1).iS h22 rfl) ?_
          obtain ⟨_, rfl, hE23⟩ := (hu0.h H1).el h22 rfl
          refine Sim.op (hE23.ld (j := 0) rfl) ?_
          refine Sim.op (castI_p _ _) ?_
          exact Sim.ret rfl rfl
      subst h27
      refine Sim.ch (P := fun r y => r = y) ?_ (fun b31 y32 h33 h34 => ?_)
      · refine Sim.cd (fun hc => ?_) (fun hc => ?_)
        · exact Sim.ret rfl rfl
        · refine Sim.bd fun a28 h29 => ?_
          refine Sim.op ((hu0.h H1).iS h29 rfl) ?_
          obtain ⟨_, rfl, hE30⟩ := (hu0.h H1).el h29 rfl
          refine Sim.op (hE30.ld (j := 0) rfl) ?_
          refine Sim.op (castI_p _ _) ?_
          exact Sim.ret rfl rfl
      subst h34
      refine Sim.ch (P := fun r y => r = y) ?_ (fun b38 y39 h40 h41 => ?_)
      · refine Sim.cd (fun hc => ?_) (fun hc => ?_)
        · exact Sim.ret rfl rfl
        · refine Sim.bd fun a35 h36 => ?_
          refine Sim.op ((hu0.h H1).iS h36 rfl) ?_
          obtain ⟨_, rfl, hE37⟩ := (hu0.h H1).el h36 rfl
          refine Sim.op (hE37.ld (j := 0) rfl) ?_
          refine Sim.op (castI_p _ _) ?_
          exact Sim.ret rfl rfl
      subst h41
      refine Sim.cd (fun hc => ?_) (fun hc => ?_)
      · refine Sim.op (bldV pt_nil (by kernel_rfl : _ = some (.agg [.p (.int .i64 0), .p (.int .u32 0), .p (.int .u32 0), .p (.slice none 0 0), .p (.slice none 0 0), .p (.slice none 0 0), .p (.int .u64 0), .p (.int .i64 0), .p (.int .i64 0), .p (.slice none 0 0)]))) ?_
        obtain ⟨H42, e43, S44⟩ := S3.stGv (i := 0) (j := 0) (own := false) (σ := (1 :: 0 :: 1 :: 1 :: 0 :: 1 :: 1 :: 1 :: 1 :: 0 :: σ)) (xs := [.p (.int .i64 0), .p (.int .u32 0), .p (.int .u32 0), .p (.slice none 0 0), .p (.slice none 0 0), .p (.slice none 0 0), .p (.int .u64 0), .p (.int .i64 0), .p (.int .i64 0), .p (.slice none 0 0)]) rfl rfl (stills_cons (still_int _ _) (stills_cons (still_int _ _) (stills_cons (still_int _ _) (stills_cons (SlF.nil dT_api_Tuple).still (stills_cons (SlF.nil (dI .u32)).still (stills_cons (SlF.nil (dI .i64)).still (stills_cons (still_int _ _) (stills_cons (still_int _ _) (stills_cons (still_int _ _) (stills_cons (SlF.nil (dI .u8)).still stills_nil)))))))))) rfl rfl
        refine Sim.op (st_map e43) ?_
        have e45 : ldO true 10 H42 (.ref ⟨h.length, 2, 0, (0 :: 0 :: 0 :: σ), []⟩ 0) = some (.agg [.p (.int .i64 0), .p (.int .u32 0), .p (.int .u32 0), .p (.slice none 0 0), .p (.slice none 0 0), .p (.slice none 0 0), .p (.int .u64 0), .p (.int .i64 0), .p (.int .i64 0), .p (.slice none 0 0)]) := (S44.atG (i := 0) rfl).ldVs (j := 0) (xs := [.p (.int .i64 0), .p (.int .u32 0), .p (.int .u32 0), .p (.slice none 0 0), .p (.slice none 0 0), .p (.slice none 0 0), .p (.int .u64 0), .p (.int .i64 0), .p (.int .i64 0), .p (.slice none 0 0)]) rfl rfl (by decide)
        refine Sim.op (show _ = some [(.agg [.p (.int .i64 0), .p (.int .u32 0), .p (.int .u32 0), .p (.slice none 0 0), .p (.slice none 0 0), .p (.slice none 0 0), .p (.int .u64 0), .p (.int .i64 0), .p (.int .i64 0), .p (.slice none 0 0)]), (.p (.int .i64 0)), (.p (.int .i64 12))] from by simp only [e45, Option.bind_some, Option.map_some]) ?_
        exact Sim.fin (S44.finN (lv_cons (Stills.lv (dT_api_Report.still (dT_api_Report.mk (SlF.nil dT_api_Tuple) (SlF.nil (dI .u32)) (SlF.nil (dI .i64)) (SlF.nil (dI .u8))))) (lv_cons (still_int _ _).lv (lv_cons (still_int _ _).lv lv_nil)))) ⟨[.p (.int .i64 0), .p (.int .u32 0), .p (.int .u32 0), .p (.slice none 0 0), .p (.slice none 0 0), .p (.slice none 0 0), .p (.int .u64 0), .p (.int .i64 0), .p (.int .i64 0), .p (.slice none 0 0)], (show dT_api_Report.R ((⟨0, 0, 0, (([] : List T_api_Tuple)), (([] : List Int)), (([] : List Int)), 0, 0, 0, (([] : List Int))⟩ : T_api_Report)) [.p (.int .i64 0), .p (.int .u32 0), .p (.int .u32 0), .p (.slice none 0 0), .p (.slice none 0 0), .p (.slice none 0 0), .p (.int .u64 0), .p (.int .i64 0), .p (.int .i64 0), .p (.slice none 0 0)] from (dT_api_Report.mk (SlF.nil dT_api_Tuple) (SlF.nil (dI .u32)) (SlF.nil (dI .i64)) (SlF.nil (dI .u8)))), rfl⟩
      · have S46 := S3.add (d := 8) (s := (16 :: 0 :: 1 :: 1 :: 1 :: 1 :: 1 :: 0 :: σ)) (cs := List.map C.v [(.p (.int .i64 0)), (.p (.int .u32 0)), (.p (.int .u32 0)), (.p (.slice none 0 0)), (.p (.slice none 0 0)), (.p (.slice none 0 0)), (.p (.int .u64 0)), (.p (.int .i64 0)), (.p (.int .i64 0)), (.p (.slice none 0 0))]) (by decide) rfl
        have S46 : Fm _ _ _ _ _ (alO [(.p (.int .i64 0)), (.p (.int .u32 0)), (.p (.int .u32 0)), (.p (.slice none 0 0)), (.p (.slice none 0 0)), (.p (.slice none 0 0)), (.p (.int .u64 0)), (.p (.int .i64 0)), (.p (.int .i64 0)), (.p (.slice none 0 0))] (16 :: 0 :: 1 :: 1 :: 1 :: 1 :: 1 :: 0 :: σ) 8 H1).2 := S46
        first | rw [S46.newLoc 8 (16 :: 0 :: 1 :: 1 :: 1 :: 1 :: 1 :: 0 :: σ)] | erw [S46.newLoc 8 (16 :: 0 :: 1 :: 1 :: 1 :: 1 :: 1 :: 0 :: σ)]
        refine Sim.nd (⟨_, (by kernel_rfl), S46.slot (i := 0) rfl⟩) ?_
        refine Sim.bd fun a48 h49 => ?_
        refine Sim.op ((hu0.h (alO [(.p (.int .i64 0)), (.p (.int .u32 0)), (.p (.int .u32 0)), (.p (.slice none 0 0)), (.p (.slice none 0 0)), (.p (.slice none 0 0)), (.p (.int .u64 0)), (.p (.int .i64 0)), (.p (.int .i64 0)), (.p (.slice none 0 0))] (16 :: 0 :: 1 :: 1 :: 1 :: 1 :: 1 :: 0 :: σ) 8 H1).2).iS h49 rfl) ?_
        obtain ⟨_, rfl, hE50⟩ := (hu0.h (alO [(.p (.int .i64 0)), (.p (.int .u32 0)), (.p (.int .u32 0)), (.p (.slice none 0 0)), (.p (.slice none 0 0)), (.p (.slice none 0 0)), (.p (.int .u64 0)), (.p (.int .i64 0)), (.p (.int .i64 0)), (.p (.slice none 0 0))] (16 :: 0 :: 1 :: 1 :: 1 :: 1 :: 1 :: 0 :: σ) 8 H1).2).el h49 rfl
        refine Sim.op (hE50.ld (j := 0) rfl) ?_
        refine Sim.op (castI_p _ _) ?_
        refine Sim.bd fun a51 h52 => ?_
        refine Sim.op ((hu0.h (alO [(.p (.int .i64 0)), (.p (.int .u32 0)), (.p (.int .u32 0)), (.p (.slice none 0 0)), (.p (.slice none 0 0)), (.p (.slice none 0 0)), (.p (.int .u64 0)), (.p (.int .i64 0)), (.p (.int .i64 0)), (.p (.slice none 0 0))] (16 :: 0 :: 1 :: 1 :: 1 :: 1 :: 1 :: 0 :: σ) 8 H1).2).iS h52 rfl) ?_
        obtain ⟨_, rfl, hE53⟩ := (hu0.h (alO [(.p (.int .i64 0)), (.p (.int .u32 0)), (.p (.int .u32 0)), (.p (.slice none 0 0)), (.p (.slice none 0 0)), (.p (.slice none 0 0)), (.p (.int .u64 0)), (.p (.int .i64 0)), (.p (.int .i64 0)), (.p (.slice none 0 0))] (16 :: 0 :: 1 :: 1 :: 1 :: 1 :: 1 :: 0 :: σ) 8 H1).2).el h52 rfl
        refine Sim.op (hE53.ld (j := 0) rfl) ?_
        refine Sim.op (castI_p _ _) ?_
        refine Sim.bd fun a54 h55 => ?_
        refine Sim.op ((hu0.h (alO [(.p (.int .i64 0)), (.p (.int .u32 0)), (.p (.int .u32 0)), (.p (.slice none 0 0)), (.p (.slice none 0 0)), (.p (.slice none 0 0)), (.p (.int .u64 0)), (.p (.int .i64 0)), (.p (.int .i64 0)), (.p (.slice none 0 0))] (16 :: 0 :: 1 :: 1 :: 1 :: 1 :: 1 :: 0 :: σ) 8 H1).2).slS h55 rfl rfl rfl) ?_
        refine Sim.call (rtcp_parse_ok k (IntKind.wrap .i64 a48) (IntKind.wrap .i64 (intBits .and .u8 a51 31)) a54 (hu0.sub h55 (e := 1) rfl)) fun r56 cs57 H58 h59 q60 => ?_
        obtain ⟨w61, h62, q60⟩ := q60
        cases q60
        obtain ⟨v63, v65, v67, v69, rfl, h64, h66, h68, h70⟩ := dT_api_Report.inv h62
        refine Sim.nd (⟨_, (by kernel_rfl), S46.slot (i := 0) rfl⟩) ?_
        refine Sim.op (rfl) ?_
        refine Sim.op (rfl) ?_
        refine Sim.op (asB_p _) ?_
        obtain ⟨H71, e72, S73⟩ := S46.stGv (i := 0) (j := 0) (own := false) (σ := (17 :: 0 :: 1 :: 1 :: 1 :: 1 :: 1 :: 0 :: σ)) (xs := [(.p (.int .i64 r56.1.Kind)), (.p (.int .u32 r56.1.From)), (.p (.int .u32 r56.1.About)), v63, v65, v67, (.p (.int .u64 r56.1.Rate)), (.p (.int .i64 r56.1.f_Type)), (.p (.int .i64 r56.1.Count)), v69]) rfl rfl (stills_cons (still_int _ _) (stills_cons (still_int _ _) (stills_cons (still_int _ _) (stills_cons h64.still (stills_cons h66.still (stills_cons h68.still (stills_cons (still_int _ _) (stills_cons (still_int _ _) (stills_cons (still_int _ _) (stills_cons h70.still stills_nil)))))))))) rfl rfl
        refine Sim.op (st_map e72) ?_
        refine Sim.cd (fun hc => ?_) (fun hc => ?_)
        · refine Sim.op (bldV pt_nil (by kernel_rfl : _ = some (.agg [.p (.int .i64 0), .p (.int .u32 0), .p (.int .u32 0), .p (.slice none 0 0), .p (.slice none 0 0), .p (.slice none 0 0), .p (.int .u64 0), .p (.int .i64 0), .p (.int .i64 0), .p (.slice none 0 0)]))) ?_
          obtain ⟨H74, e75, S76⟩ := S73.stGv (i := 1) (j := 0) (own := false) (σ := (1 :: 0 :: 1 :: 0 :: 1 :: 1 :: 1 :: 1 :: 1 :: 1 :: 0 :: σ)) (xs := [.p (.int .i64 0), .p (.int .u32 0), .p (.int .u32 0), .p (.slice none 0 0), .p (.slice none 0 0), .p (.slice none 0 0), .p (.int .u64 0), .p (.int .i64 0), .p (.int .i64 0), .p (.slice none 0 0)]) rfl rfl (stills_cons (still_int _ _) (stills_cons (still_int _ _) (stills_cons (still_int _ _) (stills_cons (SlF.nil dT_api_Tuple).still (stills_cons (SlF.nil (dI .u32)).still (stills_cons (SlF.nil (dI .i64)).still (stills_cons (still_int _ _) (stills_cons (still_int _ _) (stills_cons (still_int _ _) (stills_cons (SlF.nil (dI .u8)).still stills_nil)))))))))) rfl rfl
          refine Sim.op (st_map e75) ?_
          have e77 : ldO true 10 H74 (.ref ⟨h.length, 2, 0, (0 :: 0 :: 0 :: σ), []⟩ 0) = some (.agg [.p (.int .i64 0), .p (.int .u32 0), .p (.int .u32 0), .p (.slice none 0 0), .p (.slice none 0 0), .p (.slice none 0 0), .p (.int .u64 0), .p (.int .i64 0), .p (.int .i64 0), .p (.slice none 0 0)]) := (S76.atG (i := 1) rfl).ldVs (j := 0) (xs := [.p (.int .i64 0), .p (.int .u32 0), .p (.int .u32 0), .p (.slice none 0 0), .p (.slice none 0 0), .p (.slice none 0 0), .p (.int .u64 0), .p (.int .i64 0), .p (.int .i64 0), .p (.slice none 0 0)]) rfl rfl (by decide)
          refine Sim.op (show _ = some [(.agg [.p (.int .i64 0), .p (.int .u32 0), .p (.int .u32 0), .p (.slice none 0 0), .p (.slice none 0 0), .p (.slice none 0 0), .p (.int .u64 0), .p (.int .i64 0), .p (.int .i64 0), .p (.slice none 0 0)]), (.p (.int .i64 0)), (.p (.int .i64 12))] from by simp only [e77, Option.bind_some, Option.map_some]) ?_
          exact Sim.fin (S76.finN (lv_cons (Stills.lv (dT_api_Report.still (dT_api_Report.mk (SlF.nil dT_api_Tuple) (SlF.nil (dI .u32)) (SlF.nil (dI .i64)) (SlF.nil (dI .u8))))) (lv_cons (still_int _ _).lv (lv_cons (still_int _ _).lv lv_nil)))) ⟨[.p (.int .i64 0), .p (.int .u32 0), .p (.int .u32 0), .p (.slice none 0 0), .p (.slice none 0 0), .p (.slice none 0 0), .p (.int .u64 0), .p (.int .i64 0), .p (.int .i64 0), .p (.slice none 0 0)], (show dT_api_Report.R ((⟨0, 0, 0, (([] : List T_api_Tuple)), (([] : List Int)), (([] : List Int)), 0, 0, 0, (([] : List Int))⟩ : T_api_Report)) [.p (.int .i64 0), .p (.int .u32 0), .p (.int .u32 0), .p (.slice none 0 0), .p (.slice none 0 0), .p (.slice none 0 0), .p (.int .u64 0), .p (.int .i64 0), .p (.int .i64 0), .p (.slice none 0 0)] from (dT_api_Report.mk (SlF.nil dT_api_Tuple) (SlF.nil (dI .u32)) (SlF.nil (dI .i64)) (SlF.nil (dI .u8)))), rfl⟩
        · refine Sim.op ((S73.atG (i := 0) rfl).ldVs (j := 0) (xs := [.p (.int .i64 r56.1.Kind), .p (.int .u32 r56.1.From), .p (.int .u32 r56.1.About), v63, v65, v67, .p (.int .u64 r56.1.Rate), .p (.int .i64 r56.1.f_Type), .p (.int .i64 r56.1.Count), v69]) rfl rfl (by decide)) ?_
          obtain ⟨H78, e79, S80⟩ := S73.stGv (i := 1) (j := 0) (own := false) (σ := (2 :: 0 :: 1 :: 1 :: 1 :: 1 :: 1 :: 1 :: 1 :: 0 :: σ)) (xs := [.p (.int .i64 r56.1.Kind), .p (.int .u32 r56.1.From), .p (.int .u32 r56.1.About), v63, v65, v67, .p (.int .u64 r56.1.Rate), .p (.int .i64 r56.1.f_Type), .p (.int .i64 r56.1.Count), v69]) rfl rfl (stills_cons (still_int _ _) (stills_cons (still_int _ _) (stills_cons (still_int _ _) (stills_cons h64.still (stills_cons h66.still (stills_cons h68.still (stills_cons (still_int _ _) (stills_cons (still_int _ _) (stills_cons (still_int _ _) (stills_cons h70.still stills_nil)))))))))) rfl rfl
          refine Sim.op (st_map e79) ?_
          have e81 : ldO true 10 H78 (.ref ⟨h.length, 2, 0, (0 :: 0 :: 0 :: σ), []⟩ 0) = some (.agg [.p (.int .i64 r56.1.Kind), .p (.int .u32 r56.1.From), .p (.int .u32 r56.1.About), v63, v65, v67, .p (.int .u64 r56.1.Rate), .p (.int .i64 r56.1.f_Type), .p (.int .i64 r56.1.Count), v69]) := (S80.atG (i := 1) rfl).ldVs (j := 0) (xs := [.p (.int .i64 r56.1.Kind), .p (.int .u32 r56.1.From), .p (.int .u32 r56.1.About), v63, v65, v67, .p (.int .u64 r56.1.Rate), .p (.int .i64 r56.1.f_Type), .p (.int .i64 r56.1.Count), v69]) rfl rfl (by decide)
          refine Sim.op (show _ = some [(.agg [.p (.int .i64 r56.1.Kind), .p (.int .u32 r56.1.From), .p (.int .u32 r56.1.About), v63, v65, v67, .p (.int .u64 r56.1.Rate), .p (.int .i64 r56.1.f_Type), .p (.int .i64 r56.1.Count), v69]), (.p (.int .i64 (IntKind.wrap .i64 (4 + (IntKind.wrap .i64 (4 * (IntKind.wrap .i64 r9.1))))))), (.p (.int .i64 0))] from by simp only [e81, Option.bind_some, Option.map_some]) ?_
          exact Sim.fin (S80.finN (lv_cons (Stills.lv (dT_api_Report.still (dT_api_Report.mk h64 h66 h68 h70))) (lv_cons (still_int _ _).lv (lv_cons (still_int _ _).lv lv_nil)))) ⟨[.p (.int .i64 r56.1.Kind), .p (.int .u32 r56.1.From), .p (.int .u32 r56.1.About), v63, v65, v67, .p (.int .u64 r56.1.Rate), .p (.int .i64 r56.1.f_Type), .p (.int .i64 r56.1.Count), v69], (show dT_api_Report.R ((⟨r56.1.Kind, r56.1.From, r56.1.About, r56.1.Tuples, r56.1.Abouts, r56.1.Numbers, r56.1.Rate, r56.1.f_Type, r56.1.Count, r56.1.Body⟩ : T_api_Report)) [.p (.int .i64 r56.1.Kind), .p (.int .u32 r56.1.From), .p (.int .u32 r56.1.About), v63, v65, v67, .p (.int .u64 r56.1.Rate), .p (.int .i64 r56.1.f_Type), .p (.int .i64 r56.1.Count), v69] from (dT_api_Report.mk h64 h66 h68 h70)), rfl⟩
end Go.Ev
/- Lifted by lift.py: rtcp_Read as a plain function. -/
namespace Go.Ev
open Go.Proofs
set_option linter.unusedVariables false
set_option linter.unusedSimpArgs false
set_option maxRecDepth 100000
def p_rtcp_Read_l0 {β : Type} (k : Nat) (kE0 : (List T_api_Report) → Option β) (kE1 : Int → Option β) (x0 : (List Int)) (x4 : (List T_api_Report)) (x5 : Int) : Option β := match k with
| 0 => none
| k + 1 =>
bif decide (x5 < ((x0.length : Int))) then (
(sub x0 x5 ((x0.length : Int))).bind fun a9 =>
(p_rtcp_one k a9).bind fun r11 =>
bif r11.2.2 != 0 then (
kE1 r11.2.2)
else (
(ap 136 x4 ([((⟨r11.1.Kind, r11.1.From, r11.1.About, r11.1.Tuples, r11.1.Abouts, r11.1.Numbers, r11.1.Rate, r11.1.f_Type, r11.1.Count, r11.1.Body⟩ : T_api_Report))])).bind fun a34 =>
p_rtcp_Read_l0 k kE0 kE1 x0 a34 (IntKind.wrap .i64 (x5 + r11.2.1))))
else (
kE0 x4)
def p_rtcp_Read (k : Nat) (x0 : (List Int)) : Option ((List T_api_Report) × Int) :=
bif decide (((x0.length : Int)) > 1500) then (
some ((([] : List T_api_Report)), 3))
else (
bif ((x0.length : Int)) == 0 then (
some ((([] : List T_api_Report)), 13))
else (
p_rtcp_Read_l0 k (fun r48_4 =>
some (r48_4, 0)) (fun r62_3 =>
some ((([] : List T_api_Report)), r62_3)) x0 (([] : List T_api_Report)) 0))
theorem rtcp_Read_l0_ok {h : H}  {β α : Type} {Q : β → α → Prop} {K : Exit × Env × H → Option α} {kE0 : (List T_api_Report) → Option β} {kE1 : Int → Option β} (hE0 : ∀ (q4 : (List T_api_Report)) (v42 : V) (H40 : Go.Ev.H) (_ : Fm 41 h [] [] [⟨[35], v42, dT_api_Report, q4⟩] H40), Sim (kE0 q4) (K ((.exit 1), (envL [(4, v42)]), H40)) Q) (hE1 : ∀ (q3 : Int) (H44 : Go.Ev.H) (_ : Fm 41 h [] [] [] H44), Sim (kE1 q3) (K (.ret, (envL [(2, (.p (.slice none 0 0))), (3, (.p (.int .i64 q3)))]), H44)) Q) (k : Nat) : ∀ (x0 : (List Int)) (x4 : (List T_api_Report)) (x5 : Int) (v5 : V) (h6 : SlF (dI .u8) x0 v5) (v7 : V) (H3 : Go.Ev.H) (_ : Fm 41 h [] [] [⟨[35], v7, dT_api_Report, x4⟩] H3) {σ : Stamp}, Sim (p_rtcp_Read_l0 k kE0 kE1 x0 x4 x5) ((cvL G X0 rtcp_Read_c0 rtcp_Read_l0 σ (envL [(0, v5), (4, v7), (5, (.p (.int .i64 x5)))]) H3).bind K) Q := by
  induction k with
  | zero => intros; exact Sim.no
  | succ k ih =>
    intro x0 x4 x5 v5 h6 v7 H3 S4 σ
    rw [p_rtcp_Read_l0]
    refine Sim.round (Sim.ext (rtcp_Read_r0 _ _ _ _ _ _ _) ?_)
    refine Sim.op ((h6.h H3).len) ?_
    refine Sim.op (castI_p _ _) ?_
    refine Sim.cd (fun hc => ?_) (fun hc => ?_)
    · refine Sim.bd fun a9 h10 => ?_
      refine Sim.op ((h6.h H3).slS h10 rfl rfl rfl) ?_
      refine Sim.call (rtcp_one_ok k a9 (h6.sub h10 (e := 1) rfl)) fun r11 cs12 H13 h14 q15 => ?_
      obtain ⟨w16, h17, q15⟩ := q15
      cases q15
      obtain ⟨v18, v20, v22, v24, rfl, h19, h21, h23, h25⟩ := dT_api_Report.inv h17
      refine Sim.op (rfl) ?_
      refine Sim.op (rfl) ?_
      refine Sim.op (castI_p _ _) ?_
      refine Sim.op (rfl) ?_
      refine Sim.op (castI_p _ _) ?_
      obtain ⟨H26, e27, S28⟩ := S4.al (d := 6) (s := (8 :: 0 :: 1 :: 0 :: σ)) (z := [(.p (.int .i64 0)), (.p (.int .u32 0)), (.p (.int .u32 0)), (.p (.slice none 0 0)), (.p (.slice none 0 0)), (.p (.slice none 0 0)), (.p (.int .u64 0)), (.p (.int .i64 0)), (.p (.int .i64 0)), (.p (.slice none 0 0))]) (by decide) rfl
      refine Sim.op (congrArg some e27) ?_
      obtain ⟨H30, e31, S32⟩ := S28.stGv (i := 0) (j := 0) (own := false) (σ := (9 :: 0 :: 1 :: 0 :: σ)) (xs := [(.p (.int .i64 r11.1.Kind)), (.p (.int .u32 r11.1.From)), (.p (.int .u32 r11.1.About)), v18, v20, v22, (.p (.int .u64 r11.1.Rate)), (.p (.int .i64 r11.1.f_Type)), (.p (.int .i64 r11.1.Count)), v24]) rfl rfl (stills_cons (still_int _ _) (stills_cons (still_int _ _) (stills_cons (still_int _ _) (stills_cons h19.still (stills_cons h21.still (stills_cons h23.still (stills_cons (still_int _ _) (stills_cons (still_int _ _) (stills_cons (still_int _ _) (stills_cons h25.still stills_nil)))))))))) rfl rfl
      refine Sim.op (st_map e31) ?_
      refine Sim.cd (fun hc => ?_) (fun hc => ?_)
      · exact hE1 r11.2.2 H30 (S32.wk2 all_nil all_nil)
      · refine Sim.op ((S32.atG (i := 0) rfl).ldVs (j := 0) (xs := [.p (.int .i64 r11.1.Kind), .p (.int .u32 r11.1.From), .p (.int .u32 r11.1.About), v18, v20, v22, .p (.int .u64 r11.1.Rate), .p (.int .i64 r11.1.f_Type), .p (.int .i64 r11.1.Count), v24]) rfl rfl (by decide)) ?_
        have h33 : SlF dT_api_Report [((⟨r11.1.Kind, r11.1.From, r11.1.About, r11.1.Tuples, r11.1.Abouts, r11.1.Numbers, r11.1.Rate, r11.1.f_Type, r11.1.Count, r11.1.Body⟩ : T_api_Report))] (.fz [(.p (.int .i64 r11.1.Kind)), (.p (.int .u32 r11.1.From)), (.p (.int .u32 r11.1.About)), v18, v20, v22, (.p (.int .u64 r11.1.Rate)), (.p (.int .i64 r11.1.f_Type)), (.p (.int .i64 r11.1.Count)), v24] 1 10 true) := SlF.lit (cs := [(.p (.int .i64 r11.1.Kind)), (.p (.int .u32 r11.1.From)), (.p (.int .u32 r11.1.About)), v18, v20, v22, (.p (.int .u64 r11.1.Rate)), (.p (.int .i64 r11.1.f_Type)), (.p (.int .i64 r11.1.Count)), v24]) (RL.cons (show dT_api_Report.R ((⟨r11.1.Kind, r11.1.From, r11.1.About, r11.1.Tuples, r11.1.Abouts, r11.1.Numbers, r11.1.Rate, r11.1.f_Type, r11.1.Count, r11.1.Body⟩ : T_api_Report)) [.p (.int .i64 r11.1.Kind), .p (.int .u32 r11.1.From), .p (.int .u32 r11.1.About), v18, v20, v22, .p (.int .u64 r11.1.Rate), .p (.int .i64 r11.1.f_Type), .p (.int .i64 r11.1.Count), v24] from (dT_api_Report.mk h19 h21 h23 h25)) RL.nil) rfl rfl true
        refine Sim.op (bldS (pt_cons (c := [.p (.int .i64 r11.1.Kind), .p (.int .u32 r11.1.From), .p (.int .u32 r11.1.About), v18, v20, v22, .p (.int .u64 r11.1.Rate), .p (.int .i64 r11.1.f_Type), .p (.int .i64 r11.1.Count), v24]) rfl pt_nil) (by kernel_rfl : _ = some (.fz [(.p (.int .i64 r11.1.Kind)), (.p (.int .u32 r11.1.From)), (.p (.int .u32 r11.1.About)), v18, v20, v22, (.p (.int .u64 r11.1.Rate)), (.p (.int .i64 r11.1.f_Type)), (.p (.int .i64 r11.1.Count)), v24] 1 10 true))) ?_
        refine Sim.bd fun a34 h35 => ?_
        obtain ⟨v36, H37, e38, S39⟩ := S32.app (i := 0) (d := 35) (e := 10) (own := false) (σ := (3 :: 0 :: 1 :: 1 :: 1 :: 0 :: σ)) rfl (h33.h H30).y h35 rfl (by decide) (by decide) rfl
        refine Sim.op (e38) ?_
        exact ih x0 a34 (IntKind.wrap .i64 (x5 + r11.2.1)) v5 h6 v36 H37 (S39.wk2 all_nil (all_cons ⟨[35, 35], by simp, at_mem 0 rfl⟩ all_nil))
    · exact hE0 x4 v7 H3 (S4.wk2 all_nil (all_cons ⟨[35], by simp, at_mem 0 rfl⟩ all_nil))
theorem rtcp_Read_ok (k : Nat) {h : H} {σ : Stamp} (x0 : List Int) {u0 : V} (hu0 : SlF (dI .u8) x0 u0) : Sim (p_rtcp_Read k x0) (ev G X0 25 σ [u0] h) (fun r s => ∃ (v0 : V), SlF dT_api_Report r.1 v0 ∧ s = ([.v v0, .v (.p (.int .i64 r.2))], h)) := by
  refine Sim.ev rfl (Sim.ext (rtcp_Read_entry _ _ _ _ _) ?_)
  rw [p_rtcp_Read]
  have S0 : Fm 41 h [] [] [] (List.replicate 41 [] :: h) := Fm.start0
  refine Sim.op ((hu0.h (List.replicate 41 [] :: h)).len) ?_
  refine Sim.op (castI_p _ _) ?_
  refine Sim.cd (fun hc => ?_) (fun hc => ?_)
  · exact Sim.fin (S0.finN (lv_cons (SlF.nil dT_api_Report).still.lv (lv_cons (still_int _ _).lv lv_nil))) ⟨(.p (.slice none 0 0)), (SlF.nil dT_api_Report), rfl⟩
  · refine Sim.op ((hu0.h (List.replicate 41 [] :: h)).len) ?_
    refine Sim.op (castI_p _ _) ?_
    refine Sim.cd (fun hc => ?_) (fun hc => ?_)
    · exact Sim.fin (S0.finN (lv_cons (SlF.nil dT_api_Report).still.lv (lv_cons (still_int _ _).lv lv_nil))) ⟨(.p (.slice none 0 0)), (SlF.nil dT_api_Report), rfl⟩
    · have S47 := S0.nil dT_api_Report []
      refine Sim.as (rtcp_Read_l0_ok ?_ ?_ k x0 (([] : List T_api_Report)) 0 u0 hu0 (.p (.slice none 0 0)) (List.replicate 41 [] :: h) (S47.wk2 all_nil (all_cons ⟨[], by simp, at_mem 0 rfl⟩ all_nil))) 
      · intro r48_4 v51 H49 S50
        refine Sim.ext (rtcp_Read_a0_1 _ _ _ _ _) ?_
        obtain ⟨v53, e54, S55⟩ := clip_D (G := G) (X := X0) (i := 0) (f := 60) (fun x h => slices_Clip_Lapi_Report_api_Report_entry _ _ _ x h) S50 rfl rfl rfl
        refine Sim.op (e54) ?_
        obtain ⟨v61, H56, e57, h59, S58⟩ := S55.expFrz (i := 0) (τ := 0 :: 1 :: σ) rfl rfl
        exact Sim.fin (S58.finE (Ex.st e57 (Ex.pl (still_int _ _).lv Ex.nil))) ⟨v61, h59, rfl⟩
      · intro r62_3 H63 S64
        refine Sim.ext (rtcp_Read_a0_ret _ _ _ _ _ _) ?_
        exact Sim.fin (S64.finN (lv_cons (SlF.nil dT_api_Report).still.lv (lv_cons (still_int _ _).lv lv_nil))) ⟨(.p (.slice none 0 0)), (SlF.nil dT_api_Report), rfl⟩
end Go.Ev
namespace Go.Ev
set_option maxRecDepth 100000
set_option linter.unusedSimpArgs false
/-! ### Reports, read -/
abbrev RD (b p : List Int) : T_rtcp_reader := ⟨b, (p.length : Int), false⟩
theorem num_put {k : Nat} (hk : 10 ≤ k) {b pre suf : List Int} {v : Int} {s : Nat} (hb : b = pre ++ (putB v s ++ suf)) (hB : isB b) (hl : b.length < 2000) (h1 : 1 ≤ s) (h8 : s ≤ 8) (h0 : 0 ≤ v) (hv : v < 256 ^ s) :
    p_rtcp_reader_num k (RD b pre) (s : Int) = some (v, RD b (pre ++ putB v s)) := by
  have hlen : b.length = pre.length + (s + suf.length) := by rw [hb, List.length_append, List.length_append, putB_len]
  have g := get_ok (k := k) hk (xs := b) hB (by omega) (a := pre.length) (n := s) (by omega) h1 h8
  have e : ((b.drop pre.length).take s) = putB v s := by rw [hb, List.drop_left, List.take_left' (putB_len v s)]
  have e2 : getB 0 (putB v s) = v := by rw [getB_putB v h0, Int.emod_eq_of_lt h0 hv]; omega
  rw [e, e2] at g
  have w : IntKind.wrap .i64 ((pre.length : Int) + (s : Int)) = (((pre ++ putB v s).length : Nat) : Int) := by rw [wrap_i64 (by omega) (by omega), List.length_append, putB_len]; rfl
  unfold p_rtcp_reader_num
  rw [g, Option.bind_some]
  simp only [cond_false, Option.bind_some, Bool.not_true, w]
theorem num_any {k : Nat} (hk : 10 ≤ k) {b pre mid suf : List Int} {s : Nat} (hb : b = pre ++ (mid ++ suf)) (hm : mid.length = s) (hB : isB b) (hl : b.length < 2000) (h1 : 1 ≤ s) (h8 : s ≤ 8) :
    p_rtcp_reader_num k (RD b pre) (s : Int) = some (getB 0 mid, RD b (pre ++ mid)) := by
  have hlen : b.length = pre.length + (s + suf.length) := by rw [hb, List.length_append, List.length_append, hm]
  have g := get_ok (k := k) hk (xs := b) hB (by omega) (a := pre.length) (n := s) (by omega) h1 h8
  have e : ((b.drop pre.length).take s) = mid := by rw [hb, List.drop_left, List.take_left' hm]
  rw [e] at g
  have w : IntKind.wrap .i64 ((pre.length : Int) + (s : Int)) = (((pre ++ mid).length : Nat) : Int) := by rw [wrap_i64 (by omega) (by omega), List.length_append, hm]; rfl
  unfold p_rtcp_reader_num
  rw [g, Option.bind_some]
  simp only [cond_false, Option.bind_some, Bool.not_true, w]
theorem nought_put {k : Nat} (hk : 10 ≤ k) {b pre suf : List Int} {s : Nat} (hb : b = pre ++ (putB 0 s ++ suf)) (hB : isB b) (hl : b.length < 2000) (h1 : 1 ≤ s) (h8 : s ≤ 8) :
    p_rtcp_reader_nought k (RD b pre) (s : Int) = some (RD b (pre ++ putB 0 s)) := by
  unfold p_rtcp_reader_nought
  have := num_put hk hb hB hl h1 h8 (by decide) (Int.pow_pos (by decide))
  rw [this, Option.bind_some]
  rfl
theorem left_mid {b pre suf : List Int} (hb : b = pre ++ suf) : p_rtcp_reader_left (RD b pre) = some (decide (0 < suf.length)) := by
  unfold p_rtcp_reader_left
  have : decide ((pre.length : Int) < (b.length : Int)) = decide (0 < suf.length) := by
    rw [hb, List.length_append]
    refine decide_eq_decide.2 ?_
    omega
  simp only [Bool.not_false, cond_true, Option.bind_some, this]
theorem and511 (n v : Nat) (hv : v < 512) : intBits .and .u64 ((n * 2 ^ 9 + v : Nat) : Int) 511 = (v : Int) := by
  rw [and_mask (n := 9) (m := 511) _ rfl (by decide)]
  omega
theorem tuple_put {k : Nat} (hk : 10 ≤ k) {b pre suf : List Int} {s : ST} (hs : s.ok) (hb : b = pre ++ (encT s ++ suf)) (hB : isB b) (hl : b.length < 2000) :
    p_rtcp_reader_tuple k (RD b pre) = some (s.t, RD b (pre ++ encT s)) := by
  unfold p_rtcp_reader_tuple
  have hw : s.w < 2 ^ 32 := by
    have h1 := hs.hr.hm
    have h2 := hs.hr.he
    have h3 := hs.hv
    unfold ST.w
    omega
  have n1 := num_put (k := k) (pre := pre) hk (v := (s.o : Int)) (s := 4) (suf := putB (s.w : Int) 4 ++ suf) (by rw [hb, encT]; simp only [List.append_assoc]) hB hl (by decide) (by decide) (by omega) (by have := hs.ho; omega)
  have n2 := num_put (k := k) (pre := pre ++ putB (s.o : Int) 4) hk (v := (s.w : Int)) (s := 4) (suf := suf) (by rw [hb, encT]; simp only [List.append_assoc]) hB hl (by decide) (by decide) (by omega) (by omega)
  have f9 : Int.fdiv (s.w : Int) (2 ^ 9) = ((s.e * 2 ^ 17 + s.m : Nat) : Int) := by
    rw [fdiv_nat]
    have h3 := hs.hv
    have : s.w / 2 ^ 9 = s.e * 2 ^ 17 + s.m := by unfold ST.w; omega
    rw [this]
  have r1 := readRate (b := 17) (by decide) (by decide) hs.hr (RD b ((pre ++ putB (s.o : Int) 4) ++ putB (s.w : Int) 4))
  have w1 : IntKind.wrap .u32 (s.o : Int) = (s.o : Int) := wrap_u32 (by omega) (by have := hs.ho; omega)
  have w2 : IntKind.wrap .i64 (intBits .and .u64 (s.w : Int) 511) = (s.v : Int) := by
    unfold ST.w
    rw [and511 _ _ hs.hv]
    exact wrap_i64 (by omega) (by have := hs.hv; omega)
  erw [n1, Option.bind_some]
  erw [n2, Option.bind_some, f9]
  erw [r1, Option.bind_some]
  rw [w1, w2, encT, ← List.append_assoc]
  rfl
theorem parse_l0 {β : Type} (kE0 : List Int → T_api_Report → T_api_Report → T_rtcp_reader → Option β) (x2 b : List Int) (y : T_api_Report) (hB : isB b) (hl : b.length < 2000) : ∀ (rest : List ST) (pre : List Int) (j : Nat) (g : T_api_Report), (∀ s ∈ rest, s.ok) → b = pre ++ rest.flatMap encT → g.Tuples.length + rest.length < 1000 → 10 ≤ j →
    p_rtcp_parse_l0 (j + rest.length + 1) kE0 x2 y g (RD b pre) = kE0 x2 y { g with Tuples := g.Tuples ++ rest.map ST.t } (RD b b)
  | [], pre, j, g, _, hb, _, _ => by
    rw [List.flatMap_nil, List.append_nil] at hb
    subst hb
    rw [p_rtcp_parse_l0]
    erw [left_mid (suf := []) (List.append_nil b).symm, Option.bind_some]
    simp only [List.length_nil, Nat.lt_irrefl, decide_false, cond_false, List.map_nil, List.append_nil]
  | s :: rest, pre, j, g, hs, hb, hn, hj => by
    have hb' : b = pre ++ (encT s ++ rest.flatMap encT) := by rw [hb, List.flatMap_cons]
    rw [List.length_cons] at hn
    rw [List.length_cons, show j + (rest.length + 1) + 1 = (j + rest.length + 1) + 1 from rfl, p_rtcp_parse_l0]
    erw [left_mid hb', Option.bind_some]
    rw [List.length_append, encT_len, decide_eq_true (by omega), cond_true]
    erw [tuple_put (k := j + rest.length + 1) (by omega) (hs s (List.mem_cons_self ..)) hb' hB hl, Option.bind_some, ap_eq2 (by decide) (by simp only [List.length_cons, List.length_nil]; omega), Option.bind_some]
    refine (parse_l0 kE0 x2 b y hB hl rest (pre ++ encT s) j { g with Tuples := g.Tuples ++ [s.t] } (fun x hx => hs x (List.mem_cons_of_mem _ hx)) (by rw [hb', List.append_assoc]) (by simp only [List.length_append, List.length_cons, List.length_nil]; omega) hj).trans ?_
    simp only [List.append_assoc, List.map_cons, List.cons_append, List.nil_append]
theorem parse_l1 {β : Type} (kE0 : List Int → T_api_Report → T_api_Report → T_rtcp_reader → Option β) (x2 b : List Int) (y : T_api_Report) (hB : isB b) (hl : b.length < 2000) : ∀ (rest : List (Nat × Nat)) (pre : List Int) (j : Nat) (g : T_api_Report), (∀ p ∈ rest, p.1 < 2 ^ 32 ∧ p.2 < 256) → b = pre ++ rest.flatMap encA → g.Abouts.length + rest.length < 1000 → g.Numbers.length + rest.length < 1000 → 10 ≤ j →
    p_rtcp_parse_l1 (j + rest.length + 1) kE0 x2 y g (RD b pre) = kE0 x2 y { g with Abouts := g.Abouts ++ rest.map (fun p => (p.1 : Int)), Numbers := g.Numbers ++ rest.map (fun p => (p.2 : Int)) } (RD b b)
  | [], pre, j, g, _, hb, _, _, _ => by
    rw [List.flatMap_nil, List.append_nil] at hb
    subst hb
    rw [p_rtcp_parse_l1]
    erw [left_mid (suf := []) (List.append_nil b).symm, Option.bind_some]
    simp only [List.length_nil, Nat.lt_irrefl, decide_false, cond_false, List.map_nil, List.append_nil]
  | s :: rest, pre, j, g, hs, hb, hn, hm, hj => by
    have hb' : b = pre ++ (encA s ++ rest.flatMap encA) := by rw [hb, List.flatMap_cons]
    obtain ⟨h1, h2⟩ := hs s (List.mem_cons_self ..)
    rw [List.length_cons] at hn hm
    rw [List.length_cons, show j + (rest.length + 1) + 1 = (j + rest.length + 1) + 1 from rfl, p_rtcp_parse_l1]
    have n1 := num_put (k := j + rest.length + 1) (pre := pre) (by omega) (v := (s.1 : Int)) (s := 4) (suf := putB (s.2 : Int) 1 ++ (putB 0 3 ++ rest.flatMap encA)) (by rw [hb', encA]; simp only [List.append_assoc]) hB hl (by decide) (by decide) (by omega) (by omega)
    have n2 := num_put (k := j + rest.length + 1) (pre := pre ++ putB (s.1 : Int) 4) (by omega) (v := (s.2 : Int)) (s := 1) (suf := putB 0 3 ++ rest.flatMap encA) (by rw [hb', encA]; simp only [List.append_assoc]) hB hl (by decide) (by decide) (by omega) (by omega)
    have n3 := nought_put (k := j + rest.length + 1) (pre := (pre ++ putB (s.1 : Int) 4) ++ putB (s.2 : Int) 1) (by omega) (s := 3) (suf := rest.flatMap encA) (by rw [hb', encA]; simp only [List.append_assoc]) hB hl (by decide) (by decide)
    have w1 : IntKind.wrap .u32 (s.1 : Int) = (s.1 : Int) := wrap_u32 (by omega) (by omega)
    have w2 : IntKind.wrap .i64 (s.2 : Int) = (s.2 : Int) := wrap_i64 (by omega) (by omega)
    erw [left_mid hb', Option.bind_some]
    rw [List.length_append, encA_len, decide_eq_true (by omega), cond_true]
    erw [n1, Option.bind_some, w1, ap_eq2 (by decide) (by simp only [List.length_cons, List.length_nil]; omega), Option.bind_some, n2, Option.bind_some, w2, ap_eq2 (by decide) (by simp only [List.length_cons, List.length_nil]; omega), Option.bind_some, n3, Option.bind_some]
    have hpe : ((pre ++ putB (s.1 : Int) 4) ++ putB (s.2 : Int) 1) ++ putB 0 3 = pre ++ encA s := by rw [encA]; simp only [List.append_assoc]
    rw [hpe]
    refine (parse_l1 kE0 x2 b y hB hl rest (pre ++ encA s) j { g with Abouts := g.Abouts ++ [(s.1 : Int)], Numbers := g.Numbers ++ [(s.2 : Int)] } (fun x hx => hs x (List.mem_cons_of_mem _ hx)) (by rw [hb', List.append_assoc]) (by simp only [List.length_append, List.length_cons, List.length_nil]; omega) (by simp only [List.length_append, List.length_cons, List.length_nil]; omega) hj).trans ?_
    simp only [List.append_assoc, List.map_cons, List.cons_append, List.nil_append]
theorem remb_l0 {β : Type} (kE0 : Int → T_rtcp_reader → T_api_Report → Option β) (c : Int) (b : List Int) (hB : isB b) (hl : b.length < 2000) : ∀ (rest : List Nat) (pre : List Int) (j : Nat) (g : T_api_Report), (∀ n ∈ rest, n < 2 ^ 32) → (b = pre ++ rest.flatMap fun n : Nat => putB (n : Int) 4) → g.Abouts.length + rest.length < 1000 → 10 ≤ j →
    p_rtcp_reader_remb_l0 (j + rest.length + 1) kE0 c (RD b pre) g = kE0 c (RD b b) { g with Abouts := g.Abouts ++ rest.map (fun n : Nat => (n : Int)) }
  | [], pre, j, g, _, hb, _, _ => by
    rw [List.flatMap_nil, List.append_nil] at hb
    subst hb
    rw [p_rtcp_reader_remb_l0]
    erw [left_mid (suf := []) (List.append_nil b).symm, Option.bind_some]
    simp only [List.length_nil, Nat.lt_irrefl, decide_false, cond_false, List.map_nil, List.append_nil]
  | s :: rest, pre, j, g, hs, hb, hn, hj => by
    have hb' : b = pre ++ (putB (s : Int) 4 ++ rest.flatMap fun n : Nat => putB (n : Int) 4) := by rw [hb, List.flatMap_cons]
    have h1 := hs s (List.mem_cons_self ..)
    rw [List.length_cons] at hn
    rw [List.length_cons, show j + (rest.length + 1) + 1 = (j + rest.length + 1) + 1 from rfl, p_rtcp_reader_remb_l0]
    have n1 := num_put (k := j + rest.length + 1) (by omega) (v := (s : Int)) (s := 4) hb' hB hl (by decide) (by decide) (by omega) (by omega)
    have w1 : IntKind.wrap .u32 (s : Int) = (s : Int) := wrap_u32 (by omega) (by omega)
    erw [left_mid hb', Option.bind_some]
    rw [List.length_append, putB_len, decide_eq_true (by omega), cond_true]
    erw [n1, Option.bind_some, w1, ap_eq2 (by decide) (by simp only [List.length_cons, List.length_nil]; omega), Option.bind_some]
    refine (remb_l0 kE0 c b hB hl rest (pre ++ putB (s : Int) 4) j { g with Abouts := g.Abouts ++ [(s : Int)] } (fun x hx => hs x (List.mem_cons_of_mem _ hx)) (by rw [hb', List.append_assoc]) (by simp only [List.length_append, List.length_cons, List.length_nil]; omega) hj).trans ?_
    simp only [List.append_assoc, List.map_cons, List.cons_append, List.nil_append]
theorem remb_ok {k : Nat} (hk : 40 ≤ k) {b pre : List Int} {e m : Nat} (hF : FR 18 e m) {l : List Nat} (hn : l.length ≤ 16) (hs : ∀ n ∈ l, n < 2 ^ 32) (hb : b = pre ++ (mark ++ (putB (l.length : Int) 1 ++ (putB ((e * 2 ^ 18 + m : Nat) : Int) 3 ++ l.flatMap fun n : Nat => putB (n : Int) 4)))) (hB : isB b) (hl : b.length < 2000) (g : T_api_Report) (hg : g.Abouts = []) :
    p_rtcp_reader_remb k (RD b pre) g = some (RD b b, { g with Abouts := l.map (fun n : Nat => (n : Int)), Rate := ((m * 2 ^ e : Nat) : Int) }) := by
  unfold p_rtcp_reader_remb
  have hw : e * 2 ^ 18 + m < 2 ^ 24 := by
    have h1 := hF.hm
    have h2 := hF.he
    omega
  have n1 := num_any (k := k) (b := b) (pre := pre) (mid := mark) (s := 4) (by omega) hb rfl hB hl (by decide) (by decide)
  have n2 := num_put (k := k) (b := b) (pre := pre ++ mark) (by omega) (v := (l.length : Int)) (s := 1) (by rw [hb, List.append_assoc]) hB hl (by decide) (by decide) (by omega) (by omega)
  have n3 := num_put (k := k) (b := b) (pre := (pre ++ mark) ++ putB (l.length : Int) 1) (by omega) (v := ((e * 2 ^ 18 + m : Nat) : Int)) (s := 3) (by rw [hb, List.append_assoc, List.append_assoc]) hB hl (by decide) (by decide) (by omega) (by omega)
  have r1 := readRate (b := 18) (by decide) (by decide) hF (RD b (((pre ++ mark) ++ putB (l.length : Int) 1) ++ putB ((e * 2 ^ 18 + m : Nat) : Int) 3))
  have m4 : getB 0 mark = 1380273474 := by decide
  have lp := fun (kE0 : Int → T_rtcp_reader → T_api_Report → Option (T_rtcp_reader × T_api_Report)) => remb_l0 kE0 (l.length : Int) b hB hl l (((pre ++ mark) ++ putB (l.length : Int) 1) ++ putB ((e * 2 ^ 18 + m : Nat) : Int) 3) (k - l.length - 1) { g with Rate := ((m * 2 ^ e : Nat) : Int) } hs (by rw [hb]; simp only [List.append_assoc]) (by rw [hg]; simp only [List.length_nil]; omega) (by omega)
  rw [show k - l.length - 1 + l.length + 1 = k by omega] at lp
  have i0 : ixS (⟨#[82, 69, 77, 66]⟩ : ByteArray) 0 = some 82 := rfl
  have i1 : ixS (⟨#[82, 69, 77, 66]⟩ : ByteArray) 1 = some 69 := rfl
  have i2 : ixS (⟨#[82, 69, 77, 66]⟩ : ByteArray) 2 = some 77 := rfl
  have i3 : ixS (⟨#[82, 69, 77, 66]⟩ : ByteArray) 3 = some 66 := rfl
  have v4 : intBits .or .u64 (intBits .or .u64 (intBits .or .u64 (IntKind.wrap .u64 ((IntKind.wrap .u64 82) * 2 ^ 24)) (IntKind.wrap .u64 ((IntKind.wrap .u64 69) * 2 ^ 16))) (IntKind.wrap .u64 ((IntKind.wrap .u64 77) * 2 ^ 8))) (IntKind.wrap .u64 66) = 1380273474 := by decide
  have w1 : IntKind.wrap .u64 (l.length : Int) = (l.length : Int) := wrap_u64 (by omega) (by omega)
  rw [i0, Option.bind_some, i1, Option.bind_some, i2, Option.bind_some, i3, Option.bind_some]
  erw [n1, Option.bind_some]
  rw [v4]
  simp only [m4, bne_self_eq_false, cond_false, Option.bind_some]
  erw [n2, Option.bind_some, n3, Option.bind_some, r1, Option.bind_some, lp]
  have d16 : decide ((l.length : Int) > 16) = false := decide_eq_false (by omega)
  simp only [cond_false, Option.bind_some, hg, List.nil_append, List.length_map, w1, bne_self_eq_false, d16]
theorem kind_ours {s : SR} (h : okS s) : p_rtcp_kind (typ s : Int) (cnt s : Int) = some (rep s).Kind := by
  cases s with
  | tmm K f l => rcases h.1 with rfl | rfl <;> rfl
  | pli f a => rfl
  | fir f l => rfl
  | remb f e m l => rfl
  | other t c b => exact h.2.2.2.2.2
theorem parse_ok {k : Nat} (hk : 100 ≤ k) {s : SR} (h : okS s) : p_rtcp_parse k (typ s : Int) (cnt s : Int) (bodyS s) = some (rep s, true) := by
  have hB := body_isB h
  have hL := bodyLen h
  have hl2 : (bodyS s).length < 2000 := by omega
  unfold p_rtcp_parse
  rw [kind_ours h, Option.bind_some]
  cases s with
  | tmm K f l =>
    obtain ⟨hK, hf, hn, hs⟩ := h
    have w1 : IntKind.wrap .u32 (f : Int) = (f : Int) := wrap_u32 (by omega) (by omega)
    have n1 := num_put (k := k) (b := bodyS (.tmm K f l)) (pre := []) (by omega) (v := (f : Int)) (s := 4) rfl hB hl2 (by decide) (by decide) (by omega) (by omega)
    have n2 := nought_put (k := k) (b := bodyS (.tmm K f l)) (pre := [] ++ putB (f : Int) 4) (by omega) (s := 4) rfl hB hl2 (by decide) (by decide)
    have lp := fun (kE0 : List Int → T_api_Report → T_api_Report → T_rtcp_reader → Option (T_api_Report × Bool)) y g hg => parse_l0 kE0 (bodyS (.tmm K f l)) (bodyS (.tmm K f l)) y hB hl2 l (([] ++ putB (f : Int) 4) ++ putB 0 4) (k - l.length - 1) g hs (by rw [bodyS]; simp only [List.append_assoc, List.nil_append]) hg (by omega)
    rw [show k - l.length - 1 + l.length + 1 = k by omega] at lp
    have d6 : decide (((l.map ST.t).length : Int) > 6) = false := decide_eq_false (by rw [List.length_map]; omega)
    rcases hK with rfl | rfl
    · simp only [rep, show (((1 : Nat)) : Int) = 1 from rfl, show ((1 : Int) == 6) = false from rfl, show ((1 : Int) == 1) = true from rfl, show ((1 : Int) != 3) = true from rfl, cond_true, cond_false]
      erw [n1, Option.bind_some, n2, Option.bind_some, w1, lp _ _ _ (by simp only [List.length_nil]; omega)]
      simp only [List.nil_append, d6, cond_false, Option.bind_some, Bool.not_false, cond_true, beq_self_eq_true]
    · simp only [rep, show (((2 : Nat)) : Int) = 2 from rfl, show ((2 : Int) == 6) = false from rfl, show ((2 : Int) == 1) = false from rfl, show ((2 : Int) == 2) = true from rfl, show ((2 : Int) != 3) = true from rfl, cond_true, cond_false]
      erw [n1, Option.bind_some, n2, Option.bind_some, w1, lp _ _ _ (by simp only [List.length_nil]; omega)]
      simp only [List.nil_append, d6, cond_false, Option.bind_some, Bool.not_false, cond_true, beq_self_eq_true]
  | pli f a =>
    obtain ⟨hf, ha⟩ := h
    have w1 : IntKind.wrap .u32 (f : Int) = (f : Int) := wrap_u32 (by omega) (by omega)
    have w2 : IntKind.wrap .u32 (a : Int) = (a : Int) := wrap_u32 (by omega) (by omega)
    have n1 := num_put (k := k) (b := bodyS (.pli f a)) (pre := []) (by omega) (v := (f : Int)) (s := 4) rfl hB hl2 (by decide) (by decide) (by omega) (by omega)
    have n2 := num_put (k := k) (b := bodyS (.pli f a)) (pre := [] ++ putB (f : Int) 4) (by omega) (v := (a : Int)) (s := 4) (suf := []) (by rw [bodyS, List.append_nil, List.nil_append]) hB hl2 (by decide) (by decide) (by omega) (by omega)
    simp only [rep, show ((3 : Int) == 6) = false from rfl, show ((3 : Int) == 1) = false from rfl, show ((3 : Int) == 2) = false from rfl, show ((3 : Int) == 3) = true from rfl, show ((3 : Int) != 3) = false from rfl, cond_true, cond_false]
    erw [n1, Option.bind_some, n2, Option.bind_some, w1, w2]
    rfl
  | fir f l =>
    obtain ⟨hf, ⟨hn1, hn⟩, hs⟩ := h
    have w1 : IntKind.wrap .u32 (f : Int) = (f : Int) := wrap_u32 (by omega) (by omega)
    have n1 := num_put (k := k) (b := bodyS (.fir f l)) (pre := []) (by omega) (v := (f : Int)) (s := 4) rfl hB hl2 (by decide) (by decide) (by omega) (by omega)
    have n2 := nought_put (k := k) (b := bodyS (.fir f l)) (pre := [] ++ putB (f : Int) 4) (by omega) (s := 4) rfl hB hl2 (by decide) (by decide)
    have lp := fun (kE0 : List Int → T_api_Report → T_api_Report → T_rtcp_reader → Option (T_api_Report × Bool)) y g hg hg2 => parse_l1 kE0 (bodyS (.fir f l)) (bodyS (.fir f l)) y hB hl2 l (([] ++ putB (f : Int) 4) ++ putB 0 4) (k - l.length - 1) g hs (by rw [bodyS]; simp only [List.append_assoc, List.nil_append]) hg hg2 (by omega)
    rw [show k - l.length - 1 + l.length + 1 = k by omega] at lp
    have d1 : decide (((l.map (fun p => (p.1 : Int))).length : Int) < 1) = false := decide_eq_false (by rw [List.length_map]; omega)
    have d2 : decide (((l.map (fun p => (p.1 : Int))).length : Int) > 16) = false := decide_eq_false (by rw [List.length_map]; omega)
    simp only [rep, show ((4 : Int) == 6) = false from rfl, show ((4 : Int) == 1) = false from rfl, show ((4 : Int) == 2) = false from rfl, show ((4 : Int) == 3) = false from rfl, show ((4 : Int) == 4) = true from rfl, show ((4 : Int) != 3) = true from rfl, cond_true, cond_false]
    erw [n1, Option.bind_some, n2, Option.bind_some, w1, lp _ _ _ (by simp only [List.length_nil]; omega) (by simp only [List.length_nil]; omega)]
    simp only [List.nil_append, d1, d2, cond_false, Option.bind_some, Bool.not_false, cond_true, beq_self_eq_true]
  | remb f e m l =>
    obtain ⟨hf, hF, hn, hs⟩ := h
    have w1 : IntKind.wrap .u32 (f : Int) = (f : Int) := wrap_u32 (by omega) (by omega)
    have n1 := num_put (k := k) (b := bodyS (.remb f e m l)) (pre := []) (by omega) (v := (f : Int)) (s := 4) rfl hB hl2 (by decide) (by decide) (by omega) (by omega)
    have n2 := nought_put (k := k) (b := bodyS (.remb f e m l)) (pre := [] ++ putB (f : Int) 4) (by omega) (s := 4) rfl hB hl2 (by decide) (by decide)
    have rm := fun g hg => remb_ok (k := k) (b := bodyS (.remb f e m l)) (pre := ([] ++ putB (f : Int) 4) ++ putB 0 4) (by omega) hF hn hs (by rw [bodyS]; simp only [List.append_assoc, List.nil_append]) hB hl2 g hg
    simp only [rep, show ((5 : Int) == 6) = false from rfl, show ((5 : Int) == 1) = false from rfl, show ((5 : Int) == 2) = false from rfl, show ((5 : Int) == 3) = false from rfl, show ((5 : Int) == 4) = false from rfl, show ((5 : Int) == 5) = true from rfl, show ((5 : Int) != 3) = true from rfl, cond_true, cond_false]
    erw [n1, Option.bind_some, n2, Option.bind_some, w1, rm _ rfl, Option.bind_some]
    simp only [Bool.not_false, cond_true, beq_self_eq_true]
  | other t c b =>
    obtain ⟨h1, h2, h3, h4, h5, h6⟩ := h
    have c1 : p_clone 1 b = some b := clone_eq (by decide) (by omega)
    simp only [rep, show ((6 : Int) == 6) = true from rfl, cond_true, bodyS, typ, cnt]
    rw [c1]
    rfl
end Go.Ev
namespace Go.Ev
set_option maxRecDepth 100000
set_option linter.unusedSimpArgs false
theorem first_byte : ∀ c : Fin 32, (intBits .and .u8 ((128 + c.val : Nat) : Int) 192 = 128 ∧ intBits .and .u8 ((128 + c.val : Nat) : Int) 32 = 0) ∧ intBits .and .u8 ((128 + c.val : Nat) : Int) 31 = (c.val : Int) := by decide
theorem bytS_isB {s : SR} (h : okS s) : isB (bytS s) := by
  have hc := cnt_le h
  have ht := typ_le h
  refine isB_app (fun x hx => ?_) (isB_app (putB_isB _ _) (body_isB h))
  simp only [List.mem_cons, List.not_mem_nil, or_false] at hx
  rcases hx with rfl | rfl <;> omega
theorem words_ok {k : Nat} (hk : 10 ≤ k) {s : SR} (h : okS s) {b suf : List Int} (hb : b = bytS s ++ suf) {x : List Int} (hB : isB x) {m : Nat} (hx : x = b.take m) (hm : 4 ≤ m) (hmb : m ≤ b.length) (hl : b.length < 2000) :
    p_octet_Get k x 2 2 = some ((((bodyS s).length / 4 : Nat) : Int), true) := by
  have hbl := bodyLen h
  have hxl : x.length = m := by rw [hx, List.length_take]; omega
  have g := get_ok (k := k) hk (xs := x) hB (by omega) (a := 2) (n := 2) (by omega) (by decide) (by decide)
  have e : ((x.drop 2).take 2) = putB (((bodyS s).length / 4 : Nat) : Int) 2 := by
    obtain ⟨m', rfl⟩ : ∃ m', m = m' + 4 := ⟨m - 4, by omega⟩
    rw [hx, hb, bytS]
    simp only [putB, List.cons_append, List.nil_append, List.take_succ_cons, List.drop_succ_cons, List.drop_zero, List.take_zero]
  rw [e, getB_putB _ (by omega)] at g
  rw [show (2 : Int) = ((2 : Nat) : Int) from rfl, g]
  congr 2
  omega
theorem one_ok {k : Nat} (hk : 100 ≤ k) {s : SR} (h : okS s) {b suf : List Int} (hb : b = bytS s ++ suf) (hB : isB b) (hl : b.length < 2000) :
    p_rtcp_one k b = some (rep s, ((bytS s).length : Int), 0) := by
  have hbl := bodyLen h
  have hs := bytS_len s
  have hlen : b.length = (bytS s).length + suf.length := by rw [hb, List.length_append]
  have hc := cnt_le h
  have ht := typ_le h
  have g := words_ok (k := k) (by omega) h hb hB (m := b.length) (by rw [List.take_length]) (by omega) (by omega) hl
  have d4 : decide ((b.length : Int) < 4) = false := decide_eq_false (by omega)
  have wn : IntKind.wrap .i64 (4 + IntKind.wrap .i64 (4 * IntKind.wrap .i64 (((bodyS s).length / 4 : Nat) : Int))) = ((bytS s).length : Int) := by
    rw [wrap_i64 (n := (((bodyS s).length / 4 : Nat) : Int)) (by omega) (by omega), wrap_i64 (n := 4 * (((bodyS s).length / 4 : Nat) : Int)) (by omega) (by omega), wrap_i64 (by omega) (by omega)]
    omega
  have dn : decide (((bytS s).length : Int) > (b.length : Int)) = false := decide_eq_false (by omega)
  have i0 : ix b 0 = some ((128 + cnt s : Nat) : Int) := by rw [hb, bytS]; rfl
  have i1 : ix b 1 = some (typ s : Int) := by rw [hb, bytS]; rfl
  obtain ⟨⟨f1, f2⟩, f3⟩ := first_byte ⟨cnt s, by omega⟩
  simp only at f1 f2 f3
  have d5 : decide ((typ s : Int) < 192) = false := decide_eq_false (by omega)
  have d6 : decide ((typ s : Int) > 223) = false := decide_eq_false (by omega)
  have w1 : IntKind.wrap .i64 (typ s : Int) = (typ s : Int) := wrap_i64 (by omega) (by omega)
  have w2 : IntKind.wrap .i64 (cnt s : Int) = (cnt s : Int) := wrap_i64 (by omega) (by omega)
  have hsub : sub b 4 ((bytS s).length : Int) = some (bodyS s) := by
    have := sub_eq (xs := b) (a := 4) (n := (bodyS s).length) (by omega)
    rw [show ((bytS s).length : Int) = ((4 + (bodyS s).length : Nat) : Int) by rw [hs], show (4 : Int) = ((4 : Nat) : Int) from rfl, this]
    congr 1
    rw [hb, bytS]
    simp only [putB, List.cons_append, List.nil_append, List.drop_succ_cons, List.drop_zero, List.take_left]
  unfold p_rtcp_one
  rw [d4, cond_false, g, Option.bind_some]
  simp only [wn, dn, cond_false, i0, i1, Option.bind_some, f1, f2, f3, bne_self_eq_false, d5, d6, w1, w2, hsub, parse_ok hk h, Bool.not_true]
theorem one_cut {k : Nat} (hk : 100 ≤ k) {s : SR} (h : okS s) {x : List Int} {m : Nat} (hx : x = (bytS s).take m) (hm : m < (bytS s).length) : ∃ r n, p_rtcp_one k x = some (r, n, 13) := by
  have hbl := bodyLen h
  have hs := bytS_len s
  have hxl : x.length = m := by rw [hx, List.length_take]; omega
  unfold p_rtcp_one
  by_cases h4 : m < 4
  · have d4 : decide ((x.length : Int) < 4) = true := decide_eq_true (by omega)
    rw [d4, cond_true]
    exact ⟨_, _, rfl⟩
  · have hB : isB x := fun y hy => bytS_isB h y (by rw [hx] at hy; exact List.mem_of_mem_take hy)
    have d4 : decide ((x.length : Int) < 4) = false := decide_eq_false (by omega)
    have g := words_ok (k := k) (by omega) h (b := bytS s) (suf := []) (List.append_nil _).symm hB hx (by omega) (by omega) (by omega)
    have wn : IntKind.wrap .i64 (4 + IntKind.wrap .i64 (4 * IntKind.wrap .i64 (((bodyS s).length / 4 : Nat) : Int))) = ((bytS s).length : Int) := by
      rw [wrap_i64 (n := (((bodyS s).length / 4 : Nat) : Int)) (by omega) (by omega), wrap_i64 (n := 4 * (((bodyS s).length / 4 : Nat) : Int)) (by omega) (by omega), wrap_i64 (by omega) (by omega)]
      omega
    have dn : decide (((bytS s).length : Int) > (x.length : Int)) = true := decide_eq_true (by omega)
    rw [d4, cond_false, g, Option.bind_some, wn, dn, cond_true]
    exact ⟨_, _, rfl⟩
theorem read_steps {β : Type} (kE0 : List T_api_Report → Option β) (kE1 : Int → Option β) {b t : List Int} (hB : isB b) (hl : b.length < 2000) : ∀ (rest : List SR) (pre : List Int) (j : Nat) (out : List T_api_Report), (∀ s ∈ rest, okS s) → b = pre ++ (rest.flatMap bytS ++ t) → 100 ≤ j → out.length + rest.length < 1000 →
    p_rtcp_Read_l0 (j + rest.length) kE0 kE1 b out (pre.length : Int) = p_rtcp_Read_l0 j kE0 kE1 b (out ++ rest.map rep) ((pre ++ rest.flatMap bytS).length : Int)
  | [], pre, j, out, _, _, _, _ => by simp
  | s :: rest, pre, j, out, hs, hb, hj, ho => by
    have hb' : b = pre ++ (bytS s ++ (rest.flatMap bytS ++ t)) := by rw [hb, List.flatMap_cons, List.append_assoc]
    have h := hs s (List.mem_cons_self ..)
    have hlen : b.length = pre.length + ((bytS s).length + (rest.flatMap bytS ++ t).length) := by rw [hb', List.length_append, List.length_append]
    have hsl := bytS_len s
    rw [List.length_cons] at ho
    rw [List.length_cons, show j + (rest.length + 1) = (j + rest.length) + 1 from rfl, p_rtcp_Read_l0]
    have d : decide ((pre.length : Int) < (b.length : Int)) = true := decide_eq_true (by omega)
    have hsub : sub b (pre.length : Int) (b.length : Int) = some (bytS s ++ (rest.flatMap bytS ++ t)) := by
      have := sub_eq (xs := b) (a := pre.length) (n := b.length - pre.length) (by omega)
      rw [show pre.length + (b.length - pre.length) = b.length by omega] at this
      rw [this]
      congr 1
      rw [List.take_of_length_le (by rw [List.length_drop]; omega), hb', List.drop_left]
    have ho1 := one_ok (k := j + rest.length) (by omega) h (b := bytS s ++ (rest.flatMap bytS ++ t)) rfl (fun y hy => hB y (by rw [hb']; exact List.mem_append_right _ hy)) (by rw [List.length_append]; omega)
    have w : IntKind.wrap .i64 ((pre.length : Int) + ((bytS s).length : Int)) = (((pre ++ bytS s).length : Nat) : Int) := by rw [wrap_i64 (by omega) (by omega), List.length_append]; rfl
    have a1 : ap 136 out [rep s] = some (out ++ [rep s]) := ap_eq2 (by decide) (by simp only [List.length_cons, List.length_nil]; omega)
    rw [d, cond_true, hsub, Option.bind_some, ho1, Option.bind_some]
    simp only [show ((0 : Int) != 0) = false from rfl, cond_false, w]
    erw [a1, Option.bind_some]
    refine (read_steps kE0 kE1 hB hl rest (pre ++ bytS s) j (out ++ [rep s]) (fun x hx => hs x (List.mem_cons_of_mem _ hx)) (by rw [hb', List.append_assoc]) hj (by simp only [List.length_append, List.length_cons, List.length_nil]; omega)).trans ?_
    simp only [List.append_assoc, List.map_cons, List.cons_append, List.nil_append, List.flatMap_cons]
theorem flat_isBS {L : List SR} (h : ∀ s ∈ L, okS s) : isB (L.flatMap bytS) := fun x hx => by
  obtain ⟨a, h1, h2⟩ := List.mem_flatMap.1 hx
  exact bytS_isB (h a h1) x h2
theorem flatS_len : ∀ {L : List SR}, (∀ s ∈ L, okS s) → (L.flatMap bytS).length ≤ 204 * L.length ∧ (L.flatMap bytS).length % 4 = 0 ∧ 4 * L.length ≤ (L.flatMap bytS).length
  | [], _ => by simp
  | s :: L, h => by
    have := flatS_len (L := L) fun x hx => h x (List.mem_cons_of_mem _ hx)
    have h1 := bodyLen (h s (List.mem_cons_self ..))
    have h2 := bytS_len s
    rw [List.flatMap_cons, List.length_append, List.length_cons]
    omega
theorem read_all {k : Nat} (hk : 110 ≤ k) {L : List SR} (h : ∀ s ∈ L, okS s) (h1 : 1 ≤ L.length) (h6 : L.length ≤ 6) : p_rtcp_Read k (L.flatMap bytS) = some (L.map rep, 0) := by
  have hl := flatS_len h
  unfold p_rtcp_Read
  have d1 : decide (((L.flatMap bytS).length : Int) > 1500) = false := decide_eq_false (by omega)
  have d2 : (((L.flatMap bytS).length : Int) == 0) = false := by rw [beq_eq_false_iff_ne]; omega
  rw [d1, cond_false, d2, cond_false]
  have := read_steps (fun r => some (r, 0)) (fun r => some ([], r)) (b := L.flatMap bytS) (t := []) (flat_isBS h) (by omega) L [] (k - L.length) [] h (by rw [List.nil_append, List.append_nil]) (by omega) (by simp only [List.length_nil]; omega)
  rw [show k - L.length + L.length = k by omega] at this
  refine this.trans ?_
  obtain ⟨j, hj⟩ : ∃ j, k - L.length = j + 1 := ⟨k - L.length - 1, by omega⟩
  rw [hj, p_rtcp_Read_l0, List.nil_append]
  have d3 : decide ((((L.flatMap bytS).length : Nat) : Int) < ((L.flatMap bytS).length : Int)) = false := decide_eq_false (by omega)
  rw [d3, cond_false, List.nil_append]
theorem read_cut {k : Nat} (hk : 110 ≤ k) {L : List SR} (h : ∀ s ∈ L, okS s) (h6 : L.length ≤ 5) {s : SR} (hs : okS s) {m : Nat} (hm : m < (bytS s).length) (h0 : L.length ≠ 0 → m ≠ 0) {b : List Int} (hb : b = L.flatMap bytS ++ (bytS s).take m) : p_rtcp_Read k b = some ([], 13) := by
  have hl := flatS_len h
  have hbs := bodyLen hs
  have hsl := bytS_len s
  have htl : ((bytS s).take m).length = m := by rw [List.length_take]; omega
  have hbl : b.length = (L.flatMap bytS).length + m := by rw [hb, List.length_append, htl]
  unfold p_rtcp_Read
  have d1 : decide ((b.length : Int) > 1500) = false := decide_eq_false (by omega)
  rw [d1, cond_false]
  by_cases hz : b.length = 0
  · have d2 : ((b.length : Int) == 0) = true := by rw [hz]; rfl
    rw [d2, cond_true]
  · have d2 : ((b.length : Int) == 0) = false := by rw [beq_eq_false_iff_ne]; omega
    rw [d2, cond_false]
    have hBt : isB ((bytS s).take m) := fun y hy => bytS_isB hs y (List.mem_of_mem_take hy)
    have hB : isB b := by rw [hb]; exact isB_app (flat_isBS h) hBt
    have := read_steps (fun r => some (r, 0)) (fun r => some ([], r)) (b := b) (t := (bytS s).take m) hB (by omega) L [] (k - L.length) [] h (by rw [List.nil_append]; exact hb) (by omega) (by simp only [List.length_nil]; omega)
    rw [show k - L.length + L.length = k by omega] at this
    refine this.trans ?_
    obtain ⟨j, hj⟩ : ∃ j, k - L.length = j + 1 := ⟨k - L.length - 1, by omega⟩
    have hm0 : 0 < m := by
      by_cases hL0 : L.length = 0
      · have : L = [] := List.length_eq_zero_iff.1 hL0
        subst this
        simp at hbl
        omega
      · exact Nat.pos_of_ne_zero (h0 hL0)
    rw [hj, p_rtcp_Read_l0, List.nil_append]
    have d3 : decide ((((L.flatMap bytS).length : Nat) : Int) < (b.length : Int)) = true := decide_eq_true (by omega)
    have hsub : sub b (((L.flatMap bytS).length : Nat) : Int) (b.length : Int) = some ((bytS s).take m) := by
      have := sub_eq (xs := b) (a := (L.flatMap bytS).length) (n := b.length - (L.flatMap bytS).length) (by omega)
      rw [show (L.flatMap bytS).length + (b.length - (L.flatMap bytS).length) = b.length by omega] at this
      rw [this]
      congr 1
      rw [List.take_of_length_le (by rw [List.length_drop]; omega), hb, List.drop_left]
    obtain ⟨r, n, ho⟩ := one_cut (k := j) (by omega) hs (x := (bytS s).take m) rfl hm
    rw [d3, cond_true, hsub, Option.bind_some, ho, Option.bind_some]
    rfl
end Go.Ev
/- Equations, printed by tracer2.py. -/
namespace Go.Ev
open Go.Proofs
set_option linter.unusedVariables false
set_option maxRecDepth 100000
-- 6 limelight/limelightlaw6.RtcpRates
theorem limelightlaw6_RtcpRates_entry (rec : CallF) (loop : LoopV) (σ : Stamp) (x0 : Int) (x1 : Int) (x2 : Int) (h : H) : cvBody G rec loop 6 σ [(.p (.int .u32 x0)), (.p (.int .i64 x1)), (.p (.int .u8 x2))] h =
 (callO rec 27 (2 :: 0 :: 1 :: 1 :: 0 :: σ) [(.p (.int .i64 (intBits .and .i64 x1 31))), (.p (.int .u32 (intBits .and .u32 x0 1023))), (.p (.int .i64 18))] (List.replicate 99 [] :: h) (some 21)).bind fun q1 =>
 (castI .u64 q1.1).bind fun n2 =>
 (buildSliceV Try.prog 31 4 [(0, (.p (.int .u8 143))), (1, (.p (.int .u8 206))), (2, (.p (.int .u8 0))), (3, (.p (.int .u8 4)))]).bind fun t3 =>
 (apZ true 1 1 (1 :: 0 :: 1 :: 1 :: 1 :: 1 :: 0 :: σ) 26 q1.2 t3 8).bind fun q4 =>
 bif decide ((IntKind.wrap .u64 (intBits .and .u8 x2 7)) ≤ (IntKind.wrap .u64 (intBits .and .i64 x1 31))) then (
 (shiftV .shl .u32 (intBits .and .u32 x0 1023) (IntKind.wrap .u64 (intBits .and .u8 x2 7))).bind fun t5 =>
 (castI .u32 t5).bind fun n6 =>
 (apO true 1 1 (1 :: 0 :: 1 :: 1 :: 1 :: 1 :: 1 :: 1 :: 1 :: 0 :: σ) 47 q4.2 q4.1 (.p (.string ((⟨#[82, 69, 77, 66]⟩ : ByteArray))))).bind fun q7 =>
 (buildSliceV Try.prog 31 4 [(0, (.p (.int .u8 (IntKind.wrap .u8 (Int.fdiv (intBits .or .u32 (IntKind.wrap .u32 ((IntKind.wrap .u32 (IntKind.wrap .i64 ((intBits .and .i64 x1 31) - (IntKind.wrap .i64 (IntKind.wrap .u64 (intBits .and .u8 x2 7)))))) * 2 ^ 18)) n6) (2 ^ 24)))))), (1, (.p (.int .u8 (IntKind.wrap .u8 (Int.fdiv (intBits .or .u32 (IntKind.wrap .u32 ((IntKind.wrap .u32 (IntKind.wrap .i64 ((intBits .and .i64 x1 31) - (IntKind.wrap .i64 (IntKind.wrap .u64 (intBits .and .u8 x2 7)))))) * 2 ^ 18)) n6) (2 ^ 16)))))), (2, (.p (.int .u8 (IntKind.wrap .u8 (Int.fdiv (intBits .or .u32 (IntKind.wrap .u32 ((IntKind.wrap .u32 (IntKind.wrap .i64 ((intBits .and .i64 x1 31) - (IntKind.wrap .i64 (IntKind.wrap .u64 (intBits .and .u8 x2 7)))))) * 2 ^ 18)) n6) (2 ^ 8)))))), (3, (.p (.int .u8 (IntKind.wrap .u8 (intBits .or .u32 (IntKind.wrap .u32 ((IntKind.wrap .u32 (IntKind.wrap .i64 ((intBits .and .i64 x1 31) - (IntKind.wrap .i64 (IntKind.wrap .u64 (intBits .and .u8 x2 7)))))) * 2 ^ 18)) n6)))))]).bind fun t8 =>
 (apO true 1 1 (14 :: 0 :: 1 :: 1 :: 1 :: 1 :: 1 :: 1 :: 1 :: 0 :: σ) 60 q7.2 q7.1 t8).bind fun q9 =>
 (callFO rec 25 (1 :: 0 :: 1 :: 1 :: 1 :: 1 :: 1 :: 1 :: 1 :: 1 :: 0 :: σ) [q9.1] q9.2 (some 63)).bind fun q10 =>
 (extV q10.1 0).bind fun t11 =>
 (extV q10.1 1).bind fun t12 =>
 (castI .i64 t12).bind fun n13 =>
 (bif n13 == 0 then ((lenO t11).bind fun t14 =>
 (castI .i64 t14).bind fun n15 =>
 some (n15 == 1)) else (some false)).bind fun b16 =>
 (bif b16 then ((iS 10 t11 0).bind fun t17 =>
 (fA t17 0).bind fun t18 =>
 (ldO false 1 q10.2 t18).bind fun t19 =>
 (castI .i64 t19).bind fun n20 =>
 some (n20 == 5)) else (some false)).bind fun b21 =>
 (bif b21 then ((iS 10 t11 0).bind fun t22 =>
 (fA t22 6).bind fun t23 =>
 (ldO false 1 q10.2 t23).bind fun t24 =>
 (castI .u64 t24).bind fun n25 =>
 some (n25 == n2)) else (some false)).bind fun b26 =>
 (bif b26 then ((iS 10 t11 0).bind fun t27 =>
 (fA t27 4).bind fun t28 =>
 (ldO false 1 q10.2 t28).bind fun t29 =>
 (lenO t29).bind fun t30 =>
 (castI .i64 t30).bind fun n31 =>
 some (n31 == 0)) else (some false)).bind fun b32 =>
 (bif b32 then ((callO rec 20 (31 :: 0 :: 1 :: 1 :: 1 :: 1 :: 1 :: 1 :: 1 :: 1 :: 1 :: 0 :: σ) [] q10.2 (some 97)).bind fun q33 =>
 (asB q33.1).bind fun b34 =>
 some ((.p (.bool b34)), q33.2)) else (some ((.p (.bool false)), q10.2))).bind fun q35 =>
 (asB q35.1).bind fun b36 =>
 fin false σ q35.2 [(.p (.bool b36))])
 else (
 (apO true 1 1 (1 :: 0 :: 1 :: 1 :: 1 :: 1 :: 1 :: 1 :: 1 :: 0 :: σ) 47 q4.2 q4.1 (.p (.string ((⟨#[82, 69, 77, 66]⟩ : ByteArray))))).bind fun q37 =>
 (buildSliceV Try.prog 31 4 [(0, (.p (.int .u8 (IntKind.wrap .u8 (Int.fdiv (intBits .or .u32 (IntKind.wrap .u32 ((IntKind.wrap .u32 (intBits .and .i64 x1 31)) * 2 ^ 18)) (intBits .and .u32 x0 1023)) (2 ^ 24)))))), (1, (.p (.int .u8 (IntKind.wrap .u8 (Int.fdiv (intBits .or .u32 (IntKind.wrap .u32 ((IntKind.wrap .u32 (intBits .and .i64 x1 31)) * 2 ^ 18)) (intBits .and .u32 x0 1023)) (2 ^ 16)))))), (2, (.p (.int .u8 (IntKind.wrap .u8 (Int.fdiv (intBits .or .u32 (IntKind.wrap .u32 ((IntKind.wrap .u32 (intBits .and .i64 x1 31)) * 2 ^ 18)) (intBits .and .u32 x0 1023)) (2 ^ 8)))))), (3, (.p (.int .u8 (IntKind.wrap .u8 (intBits .or .u32 (IntKind.wrap .u32 ((IntKind.wrap .u32 (intBits .and .i64 x1 31)) * 2 ^ 18)) (intBits .and .u32 x0 1023))))))]).bind fun t38 =>
 (apO true 1 1 (14 :: 0 :: 1 :: 1 :: 1 :: 1 :: 1 :: 1 :: 1 :: 0 :: σ) 60 q37.2 q37.1 t38).bind fun q39 =>
 (callFO rec 25 (1 :: 0 :: 1 :: 1 :: 1 :: 1 :: 1 :: 1 :: 1 :: 1 :: 0 :: σ) [q39.1] q39.2 (some 63)).bind fun q40 =>
 (extV q40.1 0).bind fun t41 =>
 (extV q40.1 1).bind fun t42 =>
 (castI .i64 t42).bind fun n43 =>
 (bif n43 == 0 then ((lenO t41).bind fun t44 =>
 (castI .i64 t44).bind fun n45 =>
 some (n45 == 1)) else (some false)).bind fun b46 =>
 (bif b46 then ((iS 10 t41 0).bind fun t47 =>
 (fA t47 0).bind fun t48 =>
 (ldO false 1 q40.2 t48).bind fun t49 =>
 (castI .i64 t49).bind fun n50 =>
 some (n50 == 5)) else (some false)).bind fun b51 =>
 (bif b51 then ((iS 10 t41 0).bind fun t52 =>
 (fA t52 6).bind fun t53 =>
 (ldO false 1 q40.2 t53).bind fun t54 =>
 (castI .u64 t54).bind fun n55 =>
 some (n55 == n2)) else (some false)).bind fun b56 =>
 (bif b56 then ((iS 10 t41 0).bind fun t57 =>
 (fA t57 4).bind fun t58 =>
 (ldO false 1 q40.2 t58).bind fun t59 =>
 (lenO t59).bind fun t60 =>
 (castI .i64 t60).bind fun n61 =>
 some (n61 == 0)) else (some false)).bind fun b62 =>
 (bif b62 then ((callO rec 20 (31 :: 0 :: 1 :: 1 :: 1 :: 1 :: 1 :: 1 :: 1 :: 1 :: 1 :: 0 :: σ) [] q40.2 (some 97)).bind fun q63 =>
 (asB q63.1).bind fun b64 =>
 some ((.p (.bool b64)), q63.2)) else (some ((.p (.bool false)), q40.2))).bind fun q65 =>
 (asB q65.1).bind fun b66 =>
 fin false σ q65.2 [(.p (.bool b66))]) := by kernel_rfl
end Go.Ev
/- Equations, printed by tracer2.py. -/
namespace Go.Ev
open Go.Proofs
set_option linter.unusedVariables false
set_option maxRecDepth 100000
-- 20 limelight/limelightlaw6.known
theorem limelightlaw6_known_entry (rec : CallF) (loop : LoopV) (σ : Stamp)  (h : H) : cvBody G rec loop 20 σ [] h =
 (buildV Try.prog 33 [(0, (.p (.int .i64 3))), (1, (.p (.int .u32 1))), (2, (.p (.int .u32 2)))]).bind fun t1 =>
 (some (alO [.p (.int .i64 0), .p (.int .u32 0), .p (.int .u32 0), .p (.slice none 0 0), .p (.slice none 0 0), .p (.slice none 0 0), .p (.int .u64 0), .p (.int .i64 0), .p (.int .i64 0), .p (.slice none 0 0)] (1 :: 0 :: 1 :: 0 :: σ) 1 (List.replicate 105 [] :: h))).bind fun q2 =>
 ((stO false 10 (2 :: 0 :: 1 :: 0 :: σ) q2.2 q2.1 t1).map fun h => (udf, h)).bind fun q3 =>
 (ldO true 10 q3.2 q2.1).bind fun t4 =>
 (buildSliceV Try.prog 29 1 [(0, (.p (.int .u32 5)))]).bind fun t5 =>
 (buildV Try.prog 33 [(0, (.p (.int .i64 5))), (6, (.p (.int .u64 8000))), (4, t5)]).bind fun t6 =>
 (buildSliceV Try.prog 36 2 [(0, t4), (1, t6)]).bind fun t7 =>
 (callFO rec 24 (4 :: 0 :: 1 :: 1 :: 0 :: σ) [t7] q3.2 (some 18)).bind fun q8 =>
 (extV q8.1 0).bind fun t9 =>
 (extV q8.1 1).bind fun t10 =>
 (castI .i64 t10).bind fun n11 =>
 (callFO rec 25 (1 :: 0 :: 1 :: 1 :: 1 :: 0 :: σ) [t9] q8.2 (some 23)).bind fun q12 =>
 (extV q12.1 0).bind fun t13 =>
 (extV q12.1 1).bind fun t14 =>
 (castI .i64 t14).bind fun n15 =>
 (callFO rec 25 (0 :: 0 :: 1 :: 1 :: 1 :: 1 :: 0 :: σ) [(.p (.slice .none 0 0))] q12.2 (some 27)).bind fun q16 =>
 (extV q16.1 0).bind fun t17 =>
 (extV q16.1 1).bind fun t18 =>
 (castI .i64 t18).bind fun n19 =>
 (callFO rec 24 (0 :: 0 :: 1 :: 1 :: 1 :: 1 :: 1 :: 0 :: σ) [(.p (.slice .none 0 0))] q16.2 (some 31)).bind fun q20 =>
 (extV q20.1 0).bind fun t21 =>
 (extV q20.1 1).bind fun t22 =>
 (castI .i64 t22).bind fun n23 =>
 (buildSliceV Try.prog 31 4 [(0, (.p (.int .u8 161))), (1, (.p (.int .u8 206))), (2, (.p (.int .u8 0))), (3, (.p (.int .u8 0)))]).bind fun t24 =>
 (callFO rec 25 (1 :: 0 :: 1 :: 1 :: 1 :: 1 :: 1 :: 1 :: 0 :: σ) [t24] q20.2 (some 36)).bind fun q25 =>
 (extV q25.1 0).bind fun t26 =>
 (extV q25.1 1).bind fun t27 =>
 (castI .i64 t27).bind fun n28 =>
 (bif n11 == 0 then ((lenO t9).bind fun t29 =>
 (castI .i64 t29).bind fun n30 =>
 some (n30 == 36)) else (some false)).bind fun b31 =>
 (bif b31 then ((slS 1 t9 none (some 4) none).bind fun t32 =>
 (strO q25.2 t32).bind fun t33 =>
 (castS t33).bind fun s34 =>
 some (s34.toList == ((⟨#[129, 206, 0, 2]⟩ : ByteArray)).toList)) else (some false)).bind fun b35 =>
 (bif b35 then (some (n15 == 0)) else (some false)).bind fun b36 =>
 (bif b36 then ((lenO t13).bind fun t37 =>
 (castI .i64 t37).bind fun n38 =>
 some (n38 == 2)) else (some false)).bind fun b39 =>
 (bif b39 then ((iS 10 t13 0).bind fun t40 =>
 (ldO true 10 q25.2 t40).bind fun t41 =>
 (ldO true 10 q25.2 q2.1).bind fun t42 =>
 (callO rec 22 (27 :: 0 :: 1 :: 1 :: 1 :: 1 :: 1 :: 1 :: 1 :: 0 :: σ) [t41, t42] q25.2 (some 66)).bind fun q43 =>
 (asB q43.1).bind fun b44 =>
 some ((.p (.bool b44)), q43.2)) else (some ((.p (.bool false)), q25.2))).bind fun q45 =>
 (asB q45.1).bind fun b46 =>
 (bif b46 then ((iS 10 t13 1).bind fun t47 =>
 (fA t47 6).bind fun t48 =>
 (ldO false 1 q45.2 t48).bind fun t49 =>
 (castI .u64 t49).bind fun n50 =>
 some (n50 == 8000)) else (some false)).bind fun b51 =>
 (bif b51 then (some (n19 == 13)) else (some false)).bind fun b52 =>
 (bif b52 then (some (n23 == 1)) else (some false)).bind fun b53 =>
 (bif b53 then (some (n28 == 12)) else (some false)).bind fun b54 =>
 (bif b54 then ((callO rec 29 (50 :: 0 :: 1 :: 1 :: 1 :: 1 :: 1 :: 1 :: 1 :: 0 :: σ) [t9] q45.2 (some 89)).bind fun q55 =>
 (asB q55.1).bind fun b56 =>
 some ((.p (.bool b56)), q55.2)) else (some ((.p (.bool false)), q45.2))).bind fun q57 =>
 (asB q57.1).bind fun b58 =>
 (bif b58 then ((callO rec 29 (53 :: 0 :: 1 :: 1 :: 1 :: 1 :: 1 :: 1 :: 1 :: 0 :: σ) [(.p (.slice .none 0 0))] q57.2 (some 92)).bind fun q59 =>
 (asB q59.1).bind fun b60 =>
 some ((.p (.bool (!b60))), q59.2)) else (some ((.p (.bool false)), q57.2))).bind fun q61 =>
 (asB q61.1).bind fun b62 =>
 (bif b62 then ((buildSliceV Try.prog 31 2 [(0, (.p (.int .u8 128))), (1, (.p (.int .u8 96)))]).bind fun t63 =>
 (callO rec 29 (58 :: 0 :: 1 :: 1 :: 1 :: 1 :: 1 :: 1 :: 1 :: 0 :: σ) [t63] q61.2 (some 97)).bind fun q64 =>
 (asB q64.1).bind fun b65 =>
 some ((.p (.bool (!b65))), q64.2)) else (some ((.p (.bool false)), q61.2))).bind fun q66 =>
 (asB q66.1).bind fun b67 =>
 (bif b67 then ((buildV Try.prog 33 []).bind fun t68 =>
 (callO rec 28 (63 :: 0 :: 1 :: 1 :: 1 :: 1 :: 1 :: 1 :: 1 :: 0 :: σ) [t68] q66.2 (some 102)).bind fun q69 =>
 (castI .i64 q69.1).bind fun n70 =>
 some ((.p (.bool (n70 == 12))), q69.2)) else (some ((.p (.bool false)), q66.2))).bind fun q71 =>
 (asB q71.1).bind fun b72 =>
 fin false σ q71.2 [(.p (.bool b72))] := by kernel_rfl
end Go.Ev
/- Equations, printed by tracer2.py. -/
namespace Go.Ev
open Go.Proofs
set_option linter.unusedVariables false
set_option maxRecDepth 100000
-- 29 limelight/rtcp.Is
theorem rtcp_Is_entry (rec : CallF) (loop : LoopV) (σ : Stamp) (x0 : V) (h : H) : cvBody G rec loop 29 σ [x0] h =
 (lenO x0).bind fun t1 =>
 (castI .i64 t1).bind fun n2 =>
 (bif decide (n2 ≥ 2) then ((iS 1 x0 1).bind fun t3 =>
 (ldO false 1 (List.replicate 18 [] :: h) t3).bind fun t4 =>
 (castI .u8 t4).bind fun n5 =>
 some (decide (n5 ≥ 192))) else (some false)).bind fun b6 =>
 (bif b6 then ((iS 1 x0 1).bind fun t7 =>
 (ldO false 1 (List.replicate 18 [] :: h) t7).bind fun t8 =>
 (castI .u8 t8).bind fun n9 =>
 some (decide (n9 ≤ 223))) else (some false)).bind fun b10 =>
 fin false σ (List.replicate 18 [] :: h) [(.p (.bool b10))] := by kernel_rfl
end Go.Ev
/- Lifted by lift.py: rtcp_Is as a plain function. -/
namespace Go.Ev
open Go.Proofs
set_option linter.unusedVariables false
set_option linter.unusedSimpArgs false
set_option maxRecDepth 100000
def p_rtcp_Is (x0 : (List Int)) : Option (Bool) :=
(bif decide (((x0.length : Int)) ≥ 2) then ((ix x0 1).bind fun a1 =>
some (decide (a1 ≥ 192))) else (some false)).bind fun b4 =>
(bif b4 then ((ix x0 1).bind fun a8 =>
some (decide (a8 ≤ 223))) else (some false)).bind fun b11 =>
some (b11)
theorem rtcp_Is_ok {h : H} {σ : Stamp} (x0 : List Int) {u0 : V} (hu0 : SlH h (dI .u8) x0 u0) : Sim (p_rtcp_Is x0) (ev G X0 29 σ [u0] h) (fun r s => s = ([.v (.p (.bool r))], h)) := by
  refine Sim.ev rfl (Sim.ext (rtcp_Is_entry _ _ _ _ _) ?_)
  rw [p_rtcp_Is]
  have S0 : Fm 18 h [] [] [] (List.replicate 18 [] :: h) := Fm.start0
  refine Sim.op ((S0.low hu0).len) ?_
  refine Sim.op (castI_p _ _) ?_
  refine Sim.ch (P := fun r y => r = y) ?_ (fun b4 y5 h6 h7 => ?_)
  · refine Sim.cd (fun hc => ?_) (fun hc => ?_)
    · refine Sim.bd fun a1 h2 => ?_
      refine Sim.op ((S0.low hu0).iS h2 rfl) ?_
      obtain ⟨_, rfl, hE3⟩ := (S0.low hu0).el h2 rfl
      refine Sim.op (hE3.ld (j := 0) rfl) ?_
      refine Sim.op (castI_p _ _) ?_
      exact Sim.ret rfl rfl
    · exact Sim.ret rfl rfl
  subst h7
  refine Sim.ch (P := fun r y => r = y) ?_ (fun b11 y12 h13 h14 => ?_)
  · refine Sim.cd (fun hc => ?_) (fun hc => ?_)
    · refine Sim.bd fun a8 h9 => ?_
      refine Sim.op ((S0.low hu0).iS h9 rfl) ?_
      obtain ⟨_, rfl, hE10⟩ := (S0.low hu0).el h9 rfl
      refine Sim.op (hE10.ld (j := 0) rfl) ?_
      refine Sim.op (castI_p _ _) ?_
      exact Sim.ret rfl rfl
    · exact Sim.ret rfl rfl
  subst h14
  exact Sim.fin (S0.finN (lv_cons (still_bool _).lv lv_nil)) rfl
end Go.Ev
/- Equations, printed by tracer2.py. -/
namespace Go.Ev
open Go.Proofs
set_option linter.unusedVariables false
set_option maxRecDepth 100000
-- 22 limelight/rtcp.Same
theorem rtcp_Same_entry (rec : CallF) (loop : LoopV) (σ : Stamp) (x0 : V) (x1 : V) (h : H) : cvBody G rec loop 22 σ [x0, x1] h =
 (boxO false (0 :: 0 :: 0 :: σ) 2 (List.replicate 73 [] :: h) x0).bind fun q1 =>
 (boxO false (1 :: 0 :: 0 :: σ) 3 q1.2 x1).bind fun q2 =>
 (fA q1.1 0).bind fun t3 =>
 (ldO false 1 q2.2 t3).bind fun t4 =>
 (castI .i64 t4).bind fun n5 =>
 (fA q2.1 0).bind fun t6 =>
 (ldO false 1 q2.2 t6).bind fun t7 =>
 (castI .i64 t7).bind fun n8 =>
 (bif n5 == n8 then ((fA q1.1 1).bind fun t9 =>
 (ldO false 1 q2.2 t9).bind fun t10 =>
 (castI .u32 t10).bind fun n11 =>
 (fA q2.1 1).bind fun t12 =>
 (ldO false 1 q2.2 t12).bind fun t13 =>
 (castI .u32 t13).bind fun n14 =>
 some (n11 == n14)) else (some false)).bind fun b15 =>
 (bif b15 then ((fA q1.1 2).bind fun t16 =>
 (ldO false 1 q2.2 t16).bind fun t17 =>
 (castI .u32 t17).bind fun n18 =>
 (fA q2.1 2).bind fun t19 =>
 (ldO false 1 q2.2 t19).bind fun t20 =>
 (castI .u32 t20).bind fun n21 =>
 some (n18 == n21)) else (some false)).bind fun b22 =>
 (bif b22 then ((fA q1.1 3).bind fun t23 =>
 (ldO false 1 q2.2 t23).bind fun t24 =>
 (fA q2.1 3).bind fun t25 =>
 (ldO false 1 q2.2 t25).bind fun t26 =>
 (callO rec 51 (24 :: 0 :: 1 :: 0 :: σ) [t24, t26] q2.2 (some 29)).bind fun q27 =>
 (asB q27.1).bind fun b28 =>
 some ((.p (.bool b28)), q27.2)) else (some ((.p (.bool false)), q2.2))).bind fun q29 =>
 (asB q29.1).bind fun b30 =>
 (bif b30 then ((fA q1.1 4).bind fun t31 =>
 (ldO false 1 q29.2 t31).bind fun t32 =>
 (fA q2.1 4).bind fun t33 =>
 (ldO false 1 q29.2 t33).bind fun t34 =>
 (callO rec 52 (31 :: 0 :: 1 :: 0 :: σ) [t32, t34] q29.2 (some 36)).bind fun q35 =>
 (asB q35.1).bind fun b36 =>
 some ((.p (.bool b36)), q35.2)) else (some ((.p (.bool false)), q29.2))).bind fun q37 =>
 (asB q37.1).bind fun b38 =>
 (bif b38 then ((fA q1.1 5).bind fun t39 =>
 (ldO false 1 q37.2 t39).bind fun t40 =>
 (fA q2.1 5).bind fun t41 =>
 (ldO false 1 q37.2 t41).bind fun t42 =>
 (callO rec 53 (38 :: 0 :: 1 :: 0 :: σ) [t40, t42] q37.2 (some 43)).bind fun q43 =>
 (asB q43.1).bind fun b44 =>
 some ((.p (.bool b44)), q43.2)) else (some ((.p (.bool false)), q37.2))).bind fun q45 =>
 (asB q45.1).bind fun b46 =>
 (bif b46 then ((fA q1.1 6).bind fun t47 =>
 (ldO false 1 q45.2 t47).bind fun t48 =>
 (castI .u64 t48).bind fun n49 =>
 (fA q2.1 6).bind fun t50 =>
 (ldO false 1 q45.2 t50).bind fun t51 =>
 (castI .u64 t51).bind fun n52 =>
 some (n49 == n52)) else (some false)).bind fun b53 =>
 (bif b53 then ((fA q1.1 7).bind fun t54 =>
 (ldO false 1 q45.2 t54).bind fun t55 =>
 (castI .i64 t55).bind fun n56 =>
 (fA q2.1 7).bind fun t57 =>
 (ldO false 1 q45.2 t57).bind fun t58 =>
 (castI .i64 t58).bind fun n59 =>
 some (n56 == n59)) else (some false)).bind fun b60 =>
 (bif b60 then ((fA q1.1 8).bind fun t61 =>
 (ldO false 1 q45.2 t61).bind fun t62 =>
 (castI .i64 t62).bind fun n63 =>
 (fA q2.1 8).bind fun t64 =>
 (ldO false 1 q45.2 t64).bind fun t65 =>
 (castI .i64 t65).bind fun n66 =>
 some (n63 == n66)) else (some false)).bind fun b67 =>
 (bif b67 then ((fA q1.1 9).bind fun t68 =>
 (ldO false 1 q45.2 t68).bind fun t69 =>
 (fA q2.1 9).bind fun t70 =>
 (ldO false 1 q45.2 t70).bind fun t71 =>
 (callO rec 54 (66 :: 0 :: 1 :: 0 :: σ) [t69, t71] q45.2 (some 71)).bind fun q72 =>
 (asB q72.1).bind fun b73 =>
 some ((.p (.bool b73)), q72.2)) else (some ((.p (.bool false)), q45.2))).bind fun q74 =>
 (asB q74.1).bind fun b75 =>
 fin false σ q74.2 [(.p (.bool b75))] := by kernel_rfl
end Go.Ev
/- Equations, printed by tracer2.py. -/
namespace Go.Ev
open Go.Proofs
set_option linter.unusedVariables false
set_option maxRecDepth 100000
-- 51 slices.Equal[[]limelight/api.Tuple,limelight/api.Tuple]
noncomputable def slices_Equal_Lapi_Tuple_api_Tuple_c0 : Code := (codeAt (bodyOf Try.f51) [1, 1, 0, 1, 0, 0])
def slices_Equal_Lapi_Tuple_api_Tuple_l0 : Lv := ⟨0, 16, [(0, 0)]⟩
noncomputable def slices_Equal_Lapi_Tuple_api_Tuple_k0 (rec : CallF) (loop : LoopV) (σ : Stamp) : Exit → Env → H → Option (List C × H) := (kBlock 0 (kSeq G rec loop (codeAt (bodyOf Try.f51) [1, 1, 1]) ⟨16, 16, []⟩ (1 :: 1 :: 0 :: σ) (finC G false Try.f51 (1 :: σ))))
theorem slices_Equal_Lapi_Tuple_api_Tuple_entry (rec : CallF) (loop : LoopV) (σ : Stamp) (x0 : V) (x1 : V) (h : H) : cvBody G rec loop 51 σ [x0, x1] h =
 (lenO x0).bind fun t1 =>
 (castI .i64 t1).bind fun n2 =>
 (lenO x1).bind fun t3 =>
 (castI .i64 t3).bind fun n4 =>
 bif n2 != n4 then (
 fin false σ (List.replicate 26 [] :: h) [(.p (.bool false))])
 else (
 (lenO x0).bind fun t5 =>
 (castI .i64 t5).bind fun n6 =>
 (loop slices_Equal_Lapi_Tuple_api_Tuple_c0 slices_Equal_Lapi_Tuple_api_Tuple_l0 (1 :: 0 :: 1 :: 1 :: 0 :: σ) (envL [(0, x0), (1, x1), (12, (.p (.int .i64 n6))), (13, (.p (.int .i64 0)))]) (List.replicate 26 [] :: h)).bind fun r7 => slices_Equal_Lapi_Tuple_api_Tuple_k0 rec loop σ r7.1 r7.2.1 r7.2.2) := by kernel_rfl
theorem slices_Equal_Lapi_Tuple_api_Tuple_r0 (rec : CallF) (loop : LoopV) (σ : Stamp) (x0 : V) (x1 : V) (x12 : Int) (x13 : Int) (h : H) : cvRound G rec loop slices_Equal_Lapi_Tuple_api_Tuple_c0 slices_Equal_Lapi_Tuple_api_Tuple_l0 σ (envL [(0, x0), (1, x1), (12, (.p (.int .i64 x12))), (13, (.p (.int .i64 x13)))]) h =
 bif decide (x13 < x12) then (
 (iS 3 x0 x13).bind fun t8 =>
 (ldO true 3 h t8).bind fun t9 =>
 (iS 3 x1 x13).bind fun t10 =>
 (ldO true 3 h t10).bind fun t11 =>
 (binV Try.prog h .neq 57 t9 t11).bind fun t12 =>
 (asB t12).bind fun b13 =>
 bif b13 then (
 some (.ret, (envL [(4, (.p (.bool false)))]), h))
 else (
 loop slices_Equal_Lapi_Tuple_api_Tuple_c0 slices_Equal_Lapi_Tuple_api_Tuple_l0 (1 :: σ) (envL [(0, x0), (1, x1), (12, (.p (.int .i64 x12))), (13, (.p (.int .i64 (IntKind.wrap .i64 (x13 + 1)))))]) h))
 else (
 some ((.exit 0), (envL []), h)) := by kernel_rfl
theorem slices_Equal_Lapi_Tuple_api_Tuple_a0_0 (rec : CallF) (loop : LoopV) (σ : Stamp)  (h : H) : slices_Equal_Lapi_Tuple_api_Tuple_k0 rec loop σ (.exit 0) (envL []) h =
 fin false σ h [(.p (.bool true))] := by kernel_rfl
theorem slices_Equal_Lapi_Tuple_api_Tuple_a0_ret (rec : CallF) (loop : LoopV) (σ : Stamp) (x4 : Bool) (h : H) : slices_Equal_Lapi_Tuple_api_Tuple_k0 rec loop σ .ret (envL [(4, (.p (.bool x4)))]) h =
 fin false σ h [(.p (.bool x4))] := by kernel_rfl
end Go.Ev
/- Lifted by lift.py: slices_Equal_Lapi_Tuple_api_Tuple as a plain function. -/
namespace Go.Ev
open Go.Proofs
set_option linter.unusedVariables false
set_option linter.unusedSimpArgs false
set_option maxRecDepth 100000
def p_slices_Equal_Lapi_Tuple_api_Tuple_l0 {β : Type} (k : Nat) (kE0 : Unit → Option β) (kE1 : Bool → Option β) (x0 : (List T_api_Tuple)) (x1 : (List T_api_Tuple)) (x12 : Int) (x13 : Int) : Option β := match k with
| 0 => none
| k + 1 =>
bif decide (x13 < x12) then (
(ix x0 x13).bind fun a7 =>
(ix x1 x13).bind fun a12 =>
bif !(andB [a7.Owner == a12.Owner, a7.Rate == a12.Rate, a7.Over == a12.Over]) then (
kE1 false)
else (
p_slices_Equal_Lapi_Tuple_api_Tuple_l0 k kE0 kE1 x0 x1 x12 (IntKind.wrap .i64 (x13 + 1))))
else (
kE0 ())
def p_slices_Equal_Lapi_Tuple_api_Tuple (k : Nat) (x0 : (List T_api_Tuple)) (x1 : (List T_api_Tuple)) : Option (Bool) :=
bif ((x0.length : Int)) != ((x1.length : Int)) then (
some (false))
else (
p_slices_Equal_Lapi_Tuple_api_Tuple_l0 k (fun (_ : Unit) =>
some (true)) (fun r24_4 =>
some (r24_4)) x0 x1 ((x0.length : Int)) 0)
theorem slices_Equal_Lapi_Tuple_api_Tuple_l0_ok {h : H}  {β α : Type} {Q : β → α → Prop} {K : Exit × Env × H → Option α} {kE0 : Unit → Option β} {kE1 : Bool → Option β} (hE0 : ∀ (_u : Unit) (H17 : Go.Ev.H) (_ : Fm 26 h [] [] [] H17), Sim (kE0 ()) (K ((.exit 0), (envL []), H17)) Q) (hE1 : ∀ (q4 : Bool) (H19 : Go.Ev.H) (_ : Fm 26 h [] [] [] H19), Sim (kE1 q4) (K (.ret, (envL [(4, (.p (.bool q4)))]), H19)) Q) (k : Nat) : ∀ (x0 : (List T_api_Tuple)) (x1 : (List T_api_Tuple)) (x12 : Int) (x13 : Int) (v3 : V) (h4 : SlH h dT_api_Tuple x0 v3) (v5 : V) (h6 : SlH h dT_api_Tuple x1 v5) (H1 : Go.Ev.H) (_ : Fm 26 h [] [] [] H1) {σ : Stamp}, Sim (p_slices_Equal_Lapi_Tuple_api_Tuple_l0 k kE0 kE1 x0 x1 x12 x13) ((cvL G X0 slices_Equal_Lapi_Tuple_api_Tuple_c0 slices_Equal_Lapi_Tuple_api_Tuple_l0 σ (envL [(0, v3), (1, v5), (12, (.p (.int .i64 x12))), (13, (.p (.int .i64 x13)))]) H1).bind K) Q := by
  induction k with
  | zero => intros; exact Sim.no
  | succ k ih =>
    intro x0 x1 x12 x13 v3 h4 v5 h6 H1 S2 σ
    rw [p_slices_Equal_Lapi_Tuple_api_Tuple_l0]
    refine Sim.round (Sim.ext (slices_Equal_Lapi_Tuple_api_Tuple_r0 _ _ _ _ _ _ _ _) ?_)
    refine Sim.cd (fun hc => ?_) (fun hc => ?_)
    · refine Sim.bd fun a7 h8 => ?_
      refine Sim.op ((S2.low h4).iS h8 rfl) ?_
      obtain ⟨w10, h11, hE9⟩ := (S2.low h4).el h8 rfl
      obtain rfl := dT_api_Tuple.inv h11
      refine Sim.op (hE9.all (by simp)) ?_
      refine Sim.bd fun a12 h13 => ?_
      refine Sim.op ((S2.low h6).iS h13 rfl) ?_
      obtain ⟨w15, h16, hE14⟩ := (S2.low h6).el h13 rfl
      obtain rfl := dT_api_Tuple.inv h16
      refine Sim.op (hE14.all (by simp)) ?_
      refine Sim.op (nqS_ok (by kernel_rfl : _ = andL [a7.Owner == a12.Owner, a7.Rate == a12.Rate, a7.Over == a12.Over])) ?_
      refine Sim.op (asB_p _) ?_
      refine Sim.cd (fun hc => ?_) (fun hc => ?_)
      · exact hE1 false H1 (S2.wk2 all_nil all_nil)
      · exact ih x0 x1 x12 (IntKind.wrap .i64 (x13 + 1)) v3 h4 v5 h6 H1 (S2.wk2 all_nil all_nil)
    · exact hE0 () H1 (S2.wk2 all_nil all_nil)
theorem slices_Equal_Lapi_Tuple_api_Tuple_ok (k : Nat) {h : H} {σ : Stamp} (x0 : List T_api_Tuple) {u0 : V} (hu0 : SlH h dT_api_Tuple x0 u0) (x1 : List T_api_Tuple) {u1 : V} (hu1 : SlH h dT_api_Tuple x1 u1) : Sim (p_slices_Equal_Lapi_Tuple_api_Tuple k x0 x1) (ev G X0 51 σ [u0, u1] h) (fun r s => s = ([.v (.p (.bool r))], h)) := by
  refine Sim.ev rfl (Sim.ext (slices_Equal_Lapi_Tuple_api_Tuple_entry _ _ _ _ _ _) ?_)
  rw [p_slices_Equal_Lapi_Tuple_api_Tuple]
  have S0 : Fm 26 h [] [] [] (List.replicate 26 [] :: h) := Fm.start0
  refine Sim.op ((S0.low hu0).len) ?_
  refine Sim.op (castI_p _ _) ?_
  refine Sim.op ((S0.low hu1).len) ?_
  refine Sim.op (castI_p _ _) ?_
  refine Sim.cd (fun hc => ?_) (fun hc => ?_)
  · exact Sim.fin (S0.finN (lv_cons (still_bool _).lv lv_nil)) rfl
  · refine Sim.op ((S0.low hu0).len) ?_
    refine Sim.op (castI_p _ _) ?_
    refine Sim.as (slices_Equal_Lapi_Tuple_api_Tuple_l0_ok ?_ ?_ k x0 x1 ((x0.length : Int)) 0 u0 hu0 u1 hu1 (List.replicate 26 [] :: h) (S0.wk2 all_nil all_nil)) 
    · intro _u H22 S23
      refine Sim.ext (slices_Equal_Lapi_Tuple_api_Tuple_a0_0 _ _ _ _) ?_
      exact Sim.fin (S23.finN (lv_cons (still_bool _).lv lv_nil)) rfl
    · intro r24_4 H25 S26
      refine Sim.ext (slices_Equal_Lapi_Tuple_api_Tuple_a0_ret _ _ _ _ _) ?_
      exact Sim.fin (S26.finN (lv_cons (still_bool _).lv lv_nil)) rfl
end Go.Ev
