/- A part of the proof that follows: Chapter 6's runs: reports of sixty tapes, each thing of them turned; bytes cut off, each byte turned; reports of each type and count. -/
import Derived.Test.YtocbjhoaamkonaaMRtcpNumbers20
import Derived.KernelRfl
namespace Go.Ev
set_option maxRecDepth 100000
set_option linter.unusedSimpArgs false
set_option simprocs false
theorem num_all {β : Type} (kE0 : Unit→Option β) (kE1 : Bool→Option β) : p_zl6_RtcpNumbers_l0 600 kE0 kE1 0 = kE0 ():=by
  refine (num_step 198 kE0 kE1 0 rfl).trans ?_
  refine (num0 _ _).trans ?_
  refine (num_step 197 kE0 kE1 1 rfl).trans ?_
  refine (num1 _ _).trans ?_
  refine (num_step 196 kE0 kE1 2 rfl).trans ?_
  refine (num2 _ _).trans ?_
  refine (num_step 195 kE0 kE1 3 rfl).trans ?_
  refine (num3 _ _).trans ?_
  refine (num_step 194 kE0 kE1 4 rfl).trans ?_
  refine (num4 _ _).trans ?_
  refine (num_step 193 kE0 kE1 5 rfl).trans ?_
  refine (num5 _ _).trans ?_
  refine (num_step 192 kE0 kE1 6 rfl).trans ?_
  refine (num6 _ _).trans ?_
  refine (num_step 191 kE0 kE1 7 rfl).trans ?_
  refine (num7 _ _).trans ?_
  refine (num_step 190 kE0 kE1 8 rfl).trans ?_
  refine (num8 _ _).trans ?_
  refine (num_step 189 kE0 kE1 9 rfl).trans ?_
  refine (num9 _ _).trans ?_
  refine (num_step 188 kE0 kE1 10 rfl).trans ?_
  refine (num10 _ _).trans ?_
  refine (num_step 187 kE0 kE1 11 rfl).trans ?_
  refine (num11 _ _).trans ?_
  refine (num_step 186 kE0 kE1 12 rfl).trans ?_
  refine (num12 _ _).trans ?_
  refine (num_step 185 kE0 kE1 13 rfl).trans ?_
  refine (num13 _ _).trans ?_
  refine (num_step 184 kE0 kE1 14 rfl).trans ?_
  refine (num14 _ _).trans ?_
  refine (num_step 183 kE0 kE1 15 rfl).trans ?_
  refine (num15 _ _).trans ?_
  refine (num_step 182 kE0 kE1 16 rfl).trans ?_
  refine (num16 _ _).trans ?_
  refine (num_step 181 kE0 kE1 17 rfl).trans ?_
  refine (num17 _ _).trans ?_
  refine (num_step 180 kE0 kE1 18 rfl).trans ?_
  refine (num18 _ _).trans ?_
  refine (num_step 179 kE0 kE1 19 rfl).trans ?_
  refine (num19 _ _).trans ?_
  refine (num_step 178 kE0 kE1 20 rfl).trans ?_
  refine (num20 _ _).trans ?_
  refine (num_step 177 kE0 kE1 21 rfl).trans ?_
  refine (num21 _ _).trans ?_
  refine (num_step 176 kE0 kE1 22 rfl).trans ?_
  refine (num22 _ _).trans ?_
  refine (num_step 175 kE0 kE1 23 rfl).trans ?_
  refine (num23 _ _).trans ?_
  refine (num_step 174 kE0 kE1 24 rfl).trans ?_
  refine (num24 _ _).trans ?_
  refine (num_step 173 kE0 kE1 25 rfl).trans ?_
  refine (num25 _ _).trans ?_
  refine (num_step 172 kE0 kE1 26 rfl).trans ?_
  refine (num26 _ _).trans ?_
  refine (num_step 171 kE0 kE1 27 rfl).trans ?_
  refine (num27 _ _).trans ?_
  refine (num_step 170 kE0 kE1 28 rfl).trans ?_
  refine (num28 _ _).trans ?_
  refine (num_step 169 kE0 kE1 29 rfl).trans ?_
  refine (num29 _ _).trans ?_
  refine (num_step 168 kE0 kE1 30 rfl).trans ?_
  refine (num30 _ _).trans ?_
  refine (num_step 167 kE0 kE1 31 rfl).trans ?_
  refine (num31 _ _).trans ?_
  refine (num_step 166 kE0 kE1 32 rfl).trans ?_
  refine (num32 _ _).trans ?_
  refine (num_step 165 kE0 kE1 33 rfl).trans ?_
  refine (num33 _ _).trans ?_
  refine (num_step 164 kE0 kE1 34 rfl).trans ?_
  refine (num34 _ _).trans ?_
  refine (num_step 163 kE0 kE1 35 rfl).trans ?_
  refine (num35 _ _).trans ?_
  refine (num_step 162 kE0 kE1 36 rfl).trans ?_
  refine (num36 _ _).trans ?_
  refine (num_step 161 kE0 kE1 37 rfl).trans ?_
  refine (num37 _ _).trans ?_
  refine (num_step 160 kE0 kE1 38 rfl).trans ?_
  refine (num38 _ _).trans ?_
  refine (num_step 159 kE0 kE1 39 rfl).trans ?_
  refine (num39 _ _).trans ?_
  refine (num_step 158 kE0 kE1 40 rfl).trans ?_
  refine (num40 _ _).trans ?_
  refine (num_step 157 kE0 kE1 41 rfl).trans ?_
  refine (num41 _ _).trans ?_
  refine (num_step 156 kE0 kE1 42 rfl).trans ?_
  refine (num42 _ _).trans ?_
  refine (num_step 155 kE0 kE1 43 rfl).trans ?_
  refine (num43 _ _).trans ?_
  refine (num_step 154 kE0 kE1 44 rfl).trans ?_
  refine (num44 _ _).trans ?_
  refine (num_step 153 kE0 kE1 45 rfl).trans ?_
  refine (num45 _ _).trans ?_
  refine (num_step 152 kE0 kE1 46 rfl).trans ?_
  refine (num46 _ _).trans ?_
  refine (num_step 151 kE0 kE1 47 rfl).trans ?_
  refine (num47 _ _).trans ?_
  refine (num_step 150 kE0 kE1 48 rfl).trans ?_
  refine (num48 _ _).trans ?_
  refine (num_step 149 kE0 kE1 49 rfl).trans ?_
  refine (num49 _ _).trans ?_
  refine (num_step 148 kE0 kE1 50 rfl).trans ?_
  refine (num50 _ _).trans ?_
  refine (num_step 147 kE0 kE1 51 rfl).trans ?_
  refine (num51 _ _).trans ?_
  refine (num_step 146 kE0 kE1 52 rfl).trans ?_
  refine (num52 _ _).trans ?_
  refine (num_step 145 kE0 kE1 53 rfl).trans ?_
  refine (num53 _ _).trans ?_
  refine (num_step 144 kE0 kE1 54 rfl).trans ?_
  refine (num54 _ _).trans ?_
  refine (num_step 143 kE0 kE1 55 rfl).trans ?_
  refine (num55 _ _).trans ?_
  refine (num_step 142 kE0 kE1 56 rfl).trans ?_
  refine (num56 _ _).trans ?_
  refine (num_step 141 kE0 kE1 57 rfl).trans ?_
  refine (num57 _ _).trans ?_
  refine (num_step 140 kE0 kE1 58 rfl).trans ?_
  refine (num58 _ _).trans ?_
  refine (num_step 139 kE0 kE1 59 rfl).trans ?_
  refine (num59 _ _).trans ?_
  rfl
theorem typ_step {β : Type} (n : Nat) (kE0 : Unit→Option β) (kE1 : Bool→Option β) (t : Int) (h : decide (t < 226) = true) : f_zl6_RtcpNumbers_l2 (n + 1) kE0 kE1 t = f_zl6_RtcpNumbers_l5 n (fun r => f_zl6_RtcpNumbers_l2 n kE0 kE1 (IntKind.wrap .i64 (r + 1))) (fun r => kE1 r) t 0:=by
  rw [f_zl6_RtcpNumbers_l2,h,cond_true]
theorem num_types {β : Type} (kE0 : Unit→Option β) (kE1 : Bool→Option β) : f_zl6_RtcpNumbers_l2 600 kE0 kE1 190 = kE0 ():=by
  refine (typ_step 599 kE0 kE1 190 rfl).trans ?_
  refine (typ190 _ _).trans ?_
  refine (typ_step 598 kE0 kE1 191 rfl).trans ?_
  refine (typ191 _ _).trans ?_
  refine (typ_step 597 kE0 kE1 192 rfl).trans ?_
  refine (typ192 _ _).trans ?_
  refine (typ_step 596 kE0 kE1 193 rfl).trans ?_
  refine (typ193 _ _).trans ?_
  refine (typ_step 595 kE0 kE1 194 rfl).trans ?_
  refine (typ194 _ _).trans ?_
  refine (typ_step 594 kE0 kE1 195 rfl).trans ?_
  refine (typ195 _ _).trans ?_
  refine (typ_step 593 kE0 kE1 196 rfl).trans ?_
  refine (typ196 _ _).trans ?_
  refine (typ_step 592 kE0 kE1 197 rfl).trans ?_
  refine (typ197 _ _).trans ?_
  refine (typ_step 591 kE0 kE1 198 rfl).trans ?_
  refine (typ198 _ _).trans ?_
  refine (typ_step 590 kE0 kE1 199 rfl).trans ?_
  refine (typ199 _ _).trans ?_
  refine (typ_step 589 kE0 kE1 200 rfl).trans ?_
  refine (typ200 _ _).trans ?_
  refine (typ_step 588 kE0 kE1 201 rfl).trans ?_
  refine (typ201 _ _).trans ?_
  refine (typ_step 587 kE0 kE1 202 rfl).trans ?_
  refine (typ202 _ _).trans ?_
  refine (typ_step 586 kE0 kE1 203 rfl).trans ?_
  refine (typ203 _ _).trans ?_
  refine (typ_step 585 kE0 kE1 204 rfl).trans ?_
  refine (typ204 _ _).trans ?_
  refine (typ_step 584 kE0 kE1 205 rfl).trans ?_
  refine (typ205 _ _).trans ?_
  refine (typ_step 583 kE0 kE1 206 rfl).trans ?_
  refine (typ206 _ _).trans ?_
  refine (typ_step 582 kE0 kE1 207 rfl).trans ?_
  refine (typ207 _ _).trans ?_
  refine (typ_step 581 kE0 kE1 208 rfl).trans ?_
  refine (typ208 _ _).trans ?_
  refine (typ_step 580 kE0 kE1 209 rfl).trans ?_
  refine (typ209 _ _).trans ?_
  refine (typ_step 579 kE0 kE1 210 rfl).trans ?_
  refine (typ210 _ _).trans ?_
  refine (typ_step 578 kE0 kE1 211 rfl).trans ?_
  refine (typ211 _ _).trans ?_
  refine (typ_step 577 kE0 kE1 212 rfl).trans ?_
  refine (typ212 _ _).trans ?_
  refine (typ_step 576 kE0 kE1 213 rfl).trans ?_
  refine (typ213 _ _).trans ?_
  refine (typ_step 575 kE0 kE1 214 rfl).trans ?_
  refine (typ214 _ _).trans ?_
  refine (typ_step 574 kE0 kE1 215 rfl).trans ?_
  refine (typ215 _ _).trans ?_
  refine (typ_step 573 kE0 kE1 216 rfl).trans ?_
  refine (typ216 _ _).trans ?_
  refine (typ_step 572 kE0 kE1 217 rfl).trans ?_
  refine (typ217 _ _).trans ?_
  refine (typ_step 571 kE0 kE1 218 rfl).trans ?_
  refine (typ218 _ _).trans ?_
  refine (typ_step 570 kE0 kE1 219 rfl).trans ?_
  refine (typ219 _ _).trans ?_
  refine (typ_step 569 kE0 kE1 220 rfl).trans ?_
  refine (typ220 _ _).trans ?_
  refine (typ_step 568 kE0 kE1 221 rfl).trans ?_
  refine (typ221 _ _).trans ?_
  refine (typ_step 567 kE0 kE1 222 rfl).trans ?_
  refine (typ222 _ _).trans ?_
  refine (typ_step 566 kE0 kE1 223 rfl).trans ?_
  refine (typ223 _ _).trans ?_
  refine (typ_step 565 kE0 kE1 224 rfl).trans ?_
  refine (typ224 _ _).trans ?_
  refine (typ_step 564 kE0 kE1 225 rfl).trans ?_
  refine (typ225 _ _).trans ?_
  rfl
theorem num_end : ((mk 1 0 1504).bind fun a410 =>
(p_zl6_reads 600 a410).bind fun r422 =>
(bif r422 then ((p_zl6_same 600 (([] : List TaiReport))).bind fun r427 =>
some r427) else (some false)).bind fun b432 =>
(bif b432 then ((p_zl6_known 600).bind fun r436 =>
some r436) else (some false)).bind fun b441 =>
some (b441) : Option Bool) = some true:=by
  simp only [forceL_eq,forceR_eq,f_zr6_Same_l0_eq,f_zr6_Same_eq,f_zr6_All_l0_eq,f_zr6_All_eq,f_zr6_Read_l0_eq,f_zr6_Read_eq,f_zl6_reads_eq,f_zl6_same_l0_eq,f_zl6_same_eq,f_zl6_RtcpNumbers_l3_eq,f_zl6_RtcpNumbers_l1_eq,f_zl6_RtcpNumbers_l4_eq,f_zl6_RtcpNumbers_l6_eq,f_zl6_RtcpNumbers_l5_eq,f_zl6_RtcpNumbers_l2_eq]
  kernel_rfl
theorem rtcpNumbers_true : p_zl6_RtcpNumbers 600 = some true:=by
  unfold p_zl6_RtcpNumbers
  refine (num_all _ _).trans ?_
  rw [f_zl6_RtcpNumbers_l2_eq]
  refine (num_types _ _).trans ?_
  exact num_end
theorem rtcpNumbers_ev : ev G X0 3 [] [] [] = some ([.v (bV true)],[]):=by
  obtain ⟨_,h1,rfl⟩:=zl6_RtcpNumbers_ok 600 (h:=[]) (σ:=[]) _ rtcpNumbers_true
  exact h1
end Go.Ev
