/- Plain functions, printed by a program out of the given code. -/
import Derived.Test.YtdmkadcjemkadaaLD
open Go Go.Lft
set_option linter.unusedVariables false
namespace Go.Proofs.Pw
noncomputable section

def made_Mod (a0_x : Int) (a1_n : Int) : Option (Int) :=
  cond (!(a1_n == 0)) (
  let t7 : Int := (Int.tmod a0_x a1_n)
  let t9 : Int := (w64 (t7 + a1_n))
  cond (!(a1_n == 0)) (
  let t11 : Int := (Int.tmod t9 a1_n)
  some t11) none) none

def civil_Leap (a0_year : Int) : Option (Bool) :=
  let t4 : Int := (Int.tmod a0_year (4 : Int))
  let t8 : Int := (Int.tmod a0_year (100 : Int))
  let t12 : Int := (Int.tmod a0_year (400 : Int))
  some (cond (t4 == (0 : Int)) (cond (t8 != (0 : Int)) true (t12 == (0 : Int))) false)

def civil_Days (a0_year : Int) (a1_month : Int) : Option (Int) :=
  cond (cond (decide (a1_month < (1 : Int))) true (decide (a1_month > (12 : Int)))) (
  some (0 : Int)) (
  let t12 : (List Int) := [(31 : Int), (28 : Int), (31 : Int), (30 : Int), (31 : Int), (30 : Int), (31 : Int), (31 : Int), (30 : Int), (31 : Int), (30 : Int), (31 : Int)]
  let t5 : (List Int) := (List.replicate 12 (0 : Int))
  cond (a1_month == (2 : Int)) (
  (civil_Leap a0_year).bind fun r18 =>
  cond r18 (
  some (29 : Int)) (
  let t21 : Int := (w64 (a1_month - (1 : Int)))
  cond (inR t21 12) (
  let t23 : Int := (List.getD t12 (Int.toNat t21) (0 : Int))
  some t23) none)) (
  let t21_1 : Int := (w64 (a1_month - (1 : Int)))
  cond (inR t21_1 12) (
  let t23_1 : Int := (List.getD t12 (Int.toNat t21_1) (0 : Int))
  some t23_1) none))

def civil_Valid (a0_d : (Int × (Int × Int))) : Option (Bool) :=
  cond (decide (a0_d.1 ≥ (1970 : Int))) (
  cond (decide (a0_d.1 ≤ (2240 : Int))) (
  cond (decide (a0_d.2.2 ≥ (1 : Int))) (
  (civil_Days a0_d.1 a0_d.2.1).bind fun r23 =>
  some (decide (a0_d.2.2 ≤ r23))) (
  some false)) (
  some false)) (
  some false)

def civil_floor (a0_a : Int) (a1_b : Int) : Option (Int) :=
  cond (!(a1_b == 0)) (
  let t8 : Int := (w64 (Int.tdiv a0_a a1_b))
  cond (!(a1_b == 0)) (
  let t11 : Int := (Int.tmod a0_a a1_b)
  cond (decide (t11 < (0 : Int))) (
  let t14 : Int := (w64 (t8 - (1 : Int)))
  some t14) (
  some t8)) none) none

def civil_count (a0_year : Int) : Option (Int) :=
  let t5 : Int := (w64 (a0_year - (1 : Int)))
  let t7 : Int := (w64 (a0_year - (1970 : Int)))
  let t8 : Int := (w64 ((365 : Int) * t7))
  (civil_floor t5 (4 : Int)).bind fun r10 =>
  let t11 : Int := (w64 (t8 + r10))
  (civil_floor t5 (100 : Int)).bind fun r13 =>
  let t14 : Int := (w64 (t11 - r13))
  (civil_floor t5 (400 : Int)).bind fun r16 =>
  let t17 : Int := (w64 (t14 + r16))
  let t18 : Int := (w64 (t17 - (477 : Int)))
  some t18

def civil_number_l0_step (s3 : Int) (s4 : Int) (b1 : Int) (b1_1 : Int) (b1_2 : Int) : Option ((Int × Int × Int × Int × Int) ⊕ (Int)) :=
  cond (decide (s4 < b1_1)) (
  (civil_Days b1 s4).bind fun r22_1 =>
  let t23_1 : Int := (w64 (s3 + r22_1))
  let t17_1 : Int := (w64 (s4 + (1 : Int)))
  some (.inl (t23_1, t17_1, b1, b1_1, b1_2))) (
  some (.inr s3))

def civil_number_l0 (s3 : Int) (s4 : Int) (b1 : Int) (b1_1 : Int) (b1_2 : Int) : Option (Int) :=
  loopOpt (fun h : Int × Int × Int × Int × Int => civil_number_l0_step h.1 h.2.1 h.2.2.1 h.2.2.2.1 h.2.2.2.2) (s3, s4, b1, b1_1, b1_2)

theorem civil_number_l0_eq (s3 : Int) (s4 : Int) (b1 : Int) (b1_1 : Int) (b1_2 : Int) : civil_number_l0 s3 s4 b1 b1_1 b1_2 = lpK (civil_number_l0_step s3 s4 b1 b1_1 b1_2) (fun h => civil_number_l0 h.1 h.2.1 h.2.2.1 h.2.2.2.1 h.2.2.2.2) := loopOpt_eq _ _

def civil_number (a0_d : (Int × (Int × Int))) : Option (Int) :=
  (civil_count a0_d.1).bind fun r7 =>
  let t10 : Int := (w64 (r7 + a0_d.2.2))
  let t11 : Int := (w64 (t10 - (1 : Int)))
  (civil_number_l0 t11 (1 : Int) a0_d.1 a0_d.2.1 a0_d.2.2).bind fun q0 =>
  some q0

def civil_Day (a0_d : (Int × (Int × Int))) : Option (Int × Int) :=
  (civil_Valid (a0_d.1, (a0_d.2.1, a0_d.2.2))).bind fun r5 =>
  cond (!r5) (
  some ((0 : Int), (1 : Int))) (
  (civil_number (a0_d.1, (a0_d.2.1, a0_d.2.2))).bind fun r8 =>
  some (r8, (0 : Int)))

def civil_Weekday (a0_day : Int) : Option (Int) :=
  let t4 : Int := (Int.tmod a0_day (7 : Int))
  let t5 : Int := (w64 (t4 + (10 : Int)))
  let t6 : Int := (Int.tmod t5 (7 : Int))
  some t6

def civil_Nth (a0_year : Int) (a1_month : Int) (a2_week : Int) (a3_weekday : Int) : Option (Int × Int) :=
  (civil_Valid (a0_year, (a1_month, (1 : Int)))).bind fun r17 =>
  let t26 : Bool := (cond (cond (!r17) true (decide (a2_week < (1 : Int)))) true (decide (a2_week > (5 : Int))))
  let t34 : Bool := (cond (cond t26 true (decide (a3_weekday < (0 : Int)))) true (decide (a3_weekday > (6 : Int))))
  cond t34 (
  some ((0 : Int), (1 : Int))) (
  (civil_number (a0_year, (a1_month, (1 : Int)))).bind fun r36 =>
  (civil_Weekday r36).bind fun r40 =>
  let t41 : Int := (w64 (a3_weekday - r40))
  let t42 : Int := (w64 (t41 + (7 : Int)))
  let t43 : Int := (Int.tmod t42 (7 : Int))
  let t44 : Int := (w64 (r36 + t43))
  let t46 : Int := (w64 (a2_week - (1 : Int)))
  let t47 : Int := (w64 ((7 : Int) * t46))
  let t48 : Int := (w64 (t44 + t47))
  (civil_Days a0_year a1_month).bind fun r53 =>
  let t54 : Int := (w64 (r36 + r53))
  cond (decide (t48 ≥ t54)) (
  let t57 : Int := (w64 (t48 - (7 : Int)))
  some (t57, (0 : Int))) (
  some (t48, (0 : Int))))

def civil_AddMonths (a0_d : (Int × (Int × Int))) (a1_n : Int) : Option ((Int × (Int × Int)) × Int) :=
  (civil_Valid (a0_d.1, (a0_d.2.1, a0_d.2.2))).bind fun r8 =>
  let t17 : Bool := (cond (cond (!r8) true (decide (a1_n < (-26880 : Int)))) true (decide (a1_n > (26880 : Int))))
  cond t17 (
  some (((0 : Int), ((0 : Int), (0 : Int))), (1 : Int))) (
  let t21 : Int := (w64 ((12 : Int) * a0_d.1))
  let t24 : Int := (w64 (t21 + a0_d.2.1))
  let t25 : Int := (w64 (t24 - (1 : Int)))
  let t27 : Int := (w64 (t25 + a1_n))
  (civil_floor t27 (12 : Int)).bind fun r29 =>
  (civil_floor t27 (12 : Int)).bind fun r32 =>
  let t33 : Int := (w64 ((12 : Int) * r32))
  let t34 : Int := (w64 (t27 - t33))
  let t35 : Int := (w64 (t34 + (1 : Int)))
  (civil_Days r29 t35).bind fun r44 =>
  let t45 : Int := (if r44 < a0_d.2.2 then r44 else a0_d.2.2 : Int)
  (civil_Valid (r29, (t35, t45))).bind fun r48 =>
  cond (!r48) (
  some (((0 : Int), ((0 : Int), (0 : Int))), (1 : Int))) (
  some ((r29, (t35, t45)), (0 : Int))))

def civil_year_l0_step (s0 : Int) (s3 : Int) : Option ((Int × Int) ⊕ (Int)) :=
  let t8_1 : Int := (w64 (s3 + (1 : Int)))
  (civil_count t8_1).bind fun r9_1 =>
  cond (decide (r9_1 ≤ s0)) (
  let t13_1 : Int := (w64 (s3 + (1 : Int)))
  some (.inl (s0, t13_1))) (
  some (.inr s3))

def civil_year_l0 (s0 : Int) (s3 : Int) : Option (Int) :=
  loopOpt (fun h : Int × Int => civil_year_l0_step h.1 h.2) (s0, s3)

theorem civil_year_l0_eq (s0 : Int) (s3 : Int) : civil_year_l0 s0 s3 = lpK (civil_year_l0_step s0 s3) (fun h => civil_year_l0 h.1 h.2) := loopOpt_eq _ _

def civil_year (a0_day : Int) : Option (Int) :=
  (civil_floor a0_day (366 : Int)).bind fun r5 =>
  let t6 : Int := (w64 ((1970 : Int) + r5))
  (civil_year_l0 a0_day t6).bind fun q0 =>
  some q0

def civil_Week (a0_d : (Int × (Int × Int))) : Option (Int × Int × Int) :=
  (civil_Valid (a0_d.1, (a0_d.2.1, a0_d.2.2))).bind fun r9 =>
  cond (!r9) (
  some ((0 : Int), (0 : Int), (1 : Int))) (
  (civil_number (a0_d.1, (a0_d.2.1, a0_d.2.2))).bind fun r12 =>
  (civil_Weekday r12).bind fun r15 =>
  let t16 : Int := (w64 (r12 - r15))
  let t17 : Int := (w64 (t16 + (3 : Int)))
  (civil_year t17).bind fun r19 =>
  (civil_count r19).bind fun r23 =>
  let t24 : Int := (w64 (t17 - r23))
  let t25 : Int := (w64 (Int.tdiv t24 (7 : Int)))
  let t26 : Int := (w64 (t25 + (1 : Int)))
  some (r19, t26, (0 : Int)))

def law01_sane  : Option (Bool) :=
  (civil_Day ((2000 : Int), ((3 : Int), (1 : Int)))).bind fun r12 =>
  (civil_Nth (2026 : Int) (3 : Int) (5 : Int) (6 : Int)).bind fun r16 =>
  (civil_AddMonths ((2024 : Int), ((1 : Int), (31 : Int))) (1 : Int)).bind fun r21 =>
  (civil_Week ((2021 : Int), ((1 : Int), (3 : Int)))).bind fun r26 =>
  let t43 : Bool := (cond (cond (cond (r12.2 == (0 : Int)) (r16.2 == (0 : Int)) false) (r21.2 == (0 : Int)) false) (r26.2.2 == (0 : Int)) false)
  cond (cond t43 (r12.1 == (11017 : Int)) false) (
  (civil_Weekday r12.1).bind fun r50 =>
  let t61 : Bool := (cond (cond (r50 == (2 : Int)) (r16.1 == (20541 : Int)) false) ((r21.1.1 == (2024 : Int)) && ((r21.1.2.1 == (2 : Int)) && (r21.1.2.2 == (29 : Int)))) false)
  some (cond (cond t61 (r26.1 == (2020 : Int)) false) (r26.2.1 == (53 : Int)) false)) (
  some false)

def law01_CivilNth_l0_step (s7 : Int) (s8 : Int) (s9 : Int) (s11 : Int) (l10 : (List Int)) : Option ((Int × Int × Int × Int × (List Int)) ⊕ (Bool ⊕ (Int × Int × Int × (List Int)))) :=
  (civil_Days s7 s8).bind fun r29_2 =>
  cond (decide (s11 ≤ r29_2)) (
  (civil_Day (s7, (s8, s11))).bind fun r38_2 =>
  cond (r38_2.2 != (0 : Int)) (
  some (.inr (.inl false))) (
  (civil_Weekday r38_2.1).bind fun r44_2 =>
  cond (r44_2 == s9) (
  cond (decide (List.length l10 + List.length [r38_2.1] ≤ sizeMax)) (
  let t50_2 : (List Int) := (l10 ++ [r38_2.1])
  let t32_4 : Int := (w64 (s11 + (1 : Int)))
  some (.inl (s7, s8, s9, t32_4, t50_2))) none) (
  let t32_5 : Int := (w64 (s11 + (1 : Int)))
  some (.inl (s7, s8, s9, t32_5, l10))))) (
  some (.inr (.inr (s7, s8, s9, l10))))

def law01_CivilNth_l0 (s7 : Int) (s8 : Int) (s9 : Int) (s11 : Int) (l10 : (List Int)) : Option (Bool ⊕ (Int × Int × Int × (List Int))) :=
  loopOpt (fun h : Int × Int × Int × Int × (List Int) => law01_CivilNth_l0_step h.1 h.2.1 h.2.2.1 h.2.2.2.1 h.2.2.2.2) (s7, s8, s9, s11, l10)

theorem law01_CivilNth_l0_eq (s7 : Int) (s8 : Int) (s9 : Int) (s11 : Int) (l10 : (List Int)) : law01_CivilNth_l0 s7 s8 s9 s11 l10 = lpK (law01_CivilNth_l0_step s7 s8 s9 s11 l10) (fun h => law01_CivilNth_l0 h.1 h.2.1 h.2.2.1 h.2.2.2.1 h.2.2.2.2) := loopOpt_eq _ _

def law01_CivilNth_l2_step (s7 : Int) (s8 : Int) (s9 : Int) (s14 : Int) (l10 : (List Int)) : Option ((Int × Int × Int × Int × (List Int)) ⊕ (Bool ⊕ Unit)) :=
  cond (decide (s14 ≤ (5 : Int))) (
  (civil_Nth s7 s8 s14 s9).bind fun r63_1 =>
  let t68_1 : Int := (w64 (s14 - (1 : Int)))
  let t69_1 : Int := (if (3 : Int) < t68_1 then (3 : Int) else t68_1 : Int)
  cond (inR t69_1 (List.length l10)) (
  let t71_1 : Int := (List.getD l10 (Int.toNat t69_1) (0 : Int))
  let t82 : Bool := (cond (r63_1.2 != (0 : Int)) true (cond (decide (s14 < (5 : Int))) (r63_1.1 != t71_1) false))
  let t90_1 : Int := (Int.ofNat (List.length l10))
  let t91_1 : Int := (w64 (t90_1 - (1 : Int)))
  cond ((inR t91_1 (List.length l10)) || !((!t82) && (s14 == (5 : Int)))) (
  let t93_1 : Int := (List.getD l10 (Int.toNat t91_1) (0 : Int))
  cond (cond t82 true (cond (s14 == (5 : Int)) (r63_1.1 != t93_1) false)) (
  some (.inr (.inl false))) (
  let t57_1 : Int := (w64 (s14 + (1 : Int)))
  some (.inl (s7, s8, s9, t57_1, l10)))) none) none) (
  some (.inr (.inr ())))

def law01_CivilNth_l2 (s7 : Int) (s8 : Int) (s9 : Int) (s14 : Int) (l10 : (List Int)) : Option (Bool ⊕ Unit) :=
  loopOpt (fun h : Int × Int × Int × Int × (List Int) => law01_CivilNth_l2_step h.1 h.2.1 h.2.2.1 h.2.2.2.1 h.2.2.2.2) (s7, s8, s9, s14, l10)

theorem law01_CivilNth_l2_eq (s7 : Int) (s8 : Int) (s9 : Int) (s14 : Int) (l10 : (List Int)) : law01_CivilNth_l2 s7 s8 s9 s14 l10 = lpK (law01_CivilNth_l2_step s7 s8 s9 s14 l10) (fun h => law01_CivilNth_l2 h.1 h.2.1 h.2.2.1 h.2.2.2.1 h.2.2.2.2) := loopOpt_eq _ _

def law01_CivilNth (a0_n : Int) (a1_month : Int) (a2_weekday : Int) : Option (Bool) :=
  (made_Mod a0_n (271 : Int)).bind fun r19 =>
  let t20 : Int := (w64 ((1970 : Int) + r19))
  (made_Mod a1_month (12 : Int)).bind fun r22 =>
  let t23 : Int := (w64 ((1 : Int) + r22))
  (made_Mod a2_weekday (7 : Int)).bind fun r25 =>
  (law01_CivilNth_l0 t20 t23 r25 (1 : Int) ([] : (List Int))).bind fun q0 =>
  sumC q0 (fun a =>
  some a) (fun b =>
  let t52 : Int := (Int.ofNat (List.length b.2.2.2))
  cond (decide (t52 < (4 : Int))) (
  some false) (
  (law01_CivilNth_l2 b.1 b.2.1 b.2.2.1 (1 : Int) b.2.2.2).bind fun q2 =>
  sumC q2 (fun a_1 =>
  some a_1) (fun b_1 =>
  (law01_sane).bind fun r97 =>
  some r97)))

def r01_Leap (a0_year : Int) : Option (Bool) :=
  let t4 : Int := (Int.tmod a0_year (4 : Int))
  let t8 : Int := (Int.tmod a0_year (100 : Int))
  let t12 : Int := (Int.tmod a0_year (400 : Int))
  some (cond (t4 == (0 : Int)) (cond (t8 != (0 : Int)) true (t12 == (0 : Int))) false)

def r01_Days (a0_year : Int) (a1_month : Int) : Option (Int) :=
  cond (a1_month == (1 : Int)) (
  cond (a1_month == (1 : Int)) (
  some (31 : Int)) (
  cond (a1_month == (4 : Int)) (
  cond (a1_month == (4 : Int)) (
  some (30 : Int)) (
  cond (a1_month == (2 : Int)) (
  (r01_Leap a0_year).bind fun r22 =>
  cond r22 (
  some (29 : Int)) (
  some (28 : Int))) (
  some (0 : Int)))) (
  cond (a1_month == (6 : Int)) (
  cond (a1_month == (6 : Int)) (
  some (30 : Int)) (
  cond (a1_month == (2 : Int)) (
  (r01_Leap a0_year).bind fun r22_1 =>
  cond r22_1 (
  some (29 : Int)) (
  some (28 : Int))) (
  some (0 : Int)))) (
  cond (a1_month == (9 : Int)) (
  cond (a1_month == (9 : Int)) (
  some (30 : Int)) (
  cond (a1_month == (2 : Int)) (
  (r01_Leap a0_year).bind fun r22_2 =>
  cond r22_2 (
  some (29 : Int)) (
  some (28 : Int))) (
  some (0 : Int)))) (
  cond (a1_month == (11 : Int)) (
  some (30 : Int)) (
  cond (a1_month == (2 : Int)) (
  (r01_Leap a0_year).bind fun r22_3 =>
  cond r22_3 (
  some (29 : Int)) (
  some (28 : Int))) (
  some (0 : Int)))))))) (
  cond (a1_month == (3 : Int)) (
  cond (a1_month == (3 : Int)) (
  some (31 : Int)) (
  cond (a1_month == (4 : Int)) (
  cond (a1_month == (4 : Int)) (
  some (30 : Int)) (
  cond (a1_month == (2 : Int)) (
  (r01_Leap a0_year).bind fun r22_4 =>
  cond r22_4 (
  some (29 : Int)) (
  some (28 : Int))) (
  some (0 : Int)))) (
  cond (a1_month == (6 : Int)) (
  cond (a1_month == (6 : Int)) (
  some (30 : Int)) (
  cond (a1_month == (2 : Int)) (
  (r01_Leap a0_year).bind fun r22_5 =>
  cond r22_5 (
  some (29 : Int)) (
  some (28 : Int))) (
  some (0 : Int)))) (
  cond (a1_month == (9 : Int)) (
  cond (a1_month == (9 : Int)) (
  some (30 : Int)) (
  cond (a1_month == (2 : Int)) (
  (r01_Leap a0_year).bind fun r22_6 =>
  cond r22_6 (
  some (29 : Int)) (
  some (28 : Int))) (
  some (0 : Int)))) (
  cond (a1_month == (11 : Int)) (
  some (30 : Int)) (
  cond (a1_month == (2 : Int)) (
  (r01_Leap a0_year).bind fun r22_7 =>
  cond r22_7 (
  some (29 : Int)) (
  some (28 : Int))) (
  some (0 : Int)))))))) (
  cond (a1_month == (5 : Int)) (
  cond (a1_month == (5 : Int)) (
  some (31 : Int)) (
  cond (a1_month == (4 : Int)) (
  cond (a1_month == (4 : Int)) (
  some (30 : Int)) (
  cond (a1_month == (2 : Int)) (
  (r01_Leap a0_year).bind fun r22_8 =>
  cond r22_8 (
  some (29 : Int)) (
  some (28 : Int))) (
  some (0 : Int)))) (
  cond (a1_month == (6 : Int)) (
  cond (a1_month == (6 : Int)) (
  some (30 : Int)) (
  cond (a1_month == (2 : Int)) (
  (r01_Leap a0_year).bind fun r22_9 =>
  cond r22_9 (
  some (29 : Int)) (
  some (28 : Int))) (
  some (0 : Int)))) (
  cond (a1_month == (9 : Int)) (
  cond (a1_month == (9 : Int)) (
  some (30 : Int)) (
  cond (a1_month == (2 : Int)) (
  (r01_Leap a0_year).bind fun r22_10 =>
  cond r22_10 (
  some (29 : Int)) (
  some (28 : Int))) (
  some (0 : Int)))) (
  cond (a1_month == (11 : Int)) (
  some (30 : Int)) (
  cond (a1_month == (2 : Int)) (
  (r01_Leap a0_year).bind fun r22_11 =>
  cond r22_11 (
  some (29 : Int)) (
  some (28 : Int))) (
  some (0 : Int)))))))) (
  cond (a1_month == (7 : Int)) (
  cond (a1_month == (7 : Int)) (
  some (31 : Int)) (
  cond (a1_month == (4 : Int)) (
  cond (a1_month == (4 : Int)) (
  some (30 : Int)) (
  cond (a1_month == (2 : Int)) (
  (r01_Leap a0_year).bind fun r22_12 =>
  cond r22_12 (
  some (29 : Int)) (
  some (28 : Int))) (
  some (0 : Int)))) (
  cond (a1_month == (6 : Int)) (
  cond (a1_month == (6 : Int)) (
  some (30 : Int)) (
  cond (a1_month == (2 : Int)) (
  (r01_Leap a0_year).bind fun r22_13 =>
  cond r22_13 (
  some (29 : Int)) (
  some (28 : Int))) (
  some (0 : Int)))) (
  cond (a1_month == (9 : Int)) (
  cond (a1_month == (9 : Int)) (
  some (30 : Int)) (
  cond (a1_month == (2 : Int)) (
  (r01_Leap a0_year).bind fun r22_14 =>
  cond r22_14 (
  some (29 : Int)) (
  some (28 : Int))) (
  some (0 : Int)))) (
  cond (a1_month == (11 : Int)) (
  some (30 : Int)) (
  cond (a1_month == (2 : Int)) (
  (r01_Leap a0_year).bind fun r22_15 =>
  cond r22_15 (
  some (29 : Int)) (
  some (28 : Int))) (
  some (0 : Int)))))))) (
  cond (a1_month == (8 : Int)) (
  cond (a1_month == (8 : Int)) (
  some (31 : Int)) (
  cond (a1_month == (4 : Int)) (
  cond (a1_month == (4 : Int)) (
  some (30 : Int)) (
  cond (a1_month == (2 : Int)) (
  (r01_Leap a0_year).bind fun r22_16 =>
  cond r22_16 (
  some (29 : Int)) (
  some (28 : Int))) (
  some (0 : Int)))) (
  cond (a1_month == (6 : Int)) (
  cond (a1_month == (6 : Int)) (
  some (30 : Int)) (
  cond (a1_month == (2 : Int)) (
  (r01_Leap a0_year).bind fun r22_17 =>
  cond r22_17 (
  some (29 : Int)) (
  some (28 : Int))) (
  some (0 : Int)))) (
  cond (a1_month == (9 : Int)) (
  cond (a1_month == (9 : Int)) (
  some (30 : Int)) (
  cond (a1_month == (2 : Int)) (
  (r01_Leap a0_year).bind fun r22_18 =>
  cond r22_18 (
  some (29 : Int)) (
  some (28 : Int))) (
  some (0 : Int)))) (
  cond (a1_month == (11 : Int)) (
  some (30 : Int)) (
  cond (a1_month == (2 : Int)) (
  (r01_Leap a0_year).bind fun r22_19 =>
  cond r22_19 (
  some (29 : Int)) (
  some (28 : Int))) (
  some (0 : Int)))))))) (
  cond (a1_month == (10 : Int)) (
  cond (a1_month == (10 : Int)) (
  some (31 : Int)) (
  cond (a1_month == (4 : Int)) (
  cond (a1_month == (4 : Int)) (
  some (30 : Int)) (
  cond (a1_month == (2 : Int)) (
  (r01_Leap a0_year).bind fun r22_20 =>
  cond r22_20 (
  some (29 : Int)) (
  some (28 : Int))) (
  some (0 : Int)))) (
  cond (a1_month == (6 : Int)) (
  cond (a1_month == (6 : Int)) (
  some (30 : Int)) (
  cond (a1_month == (2 : Int)) (
  (r01_Leap a0_year).bind fun r22_21 =>
  cond r22_21 (
  some (29 : Int)) (
  some (28 : Int))) (
  some (0 : Int)))) (
  cond (a1_month == (9 : Int)) (
  cond (a1_month == (9 : Int)) (
  some (30 : Int)) (
  cond (a1_month == (2 : Int)) (
  (r01_Leap a0_year).bind fun r22_22 =>
  cond r22_22 (
  some (29 : Int)) (
  some (28 : Int))) (
  some (0 : Int)))) (
  cond (a1_month == (11 : Int)) (
  some (30 : Int)) (
  cond (a1_month == (2 : Int)) (
  (r01_Leap a0_year).bind fun r22_23 =>
  cond r22_23 (
  some (29 : Int)) (
  some (28 : Int))) (
  some (0 : Int)))))))) (
  cond (a1_month == (12 : Int)) (
  some (31 : Int)) (
  cond (a1_month == (4 : Int)) (
  cond (a1_month == (4 : Int)) (
  some (30 : Int)) (
  cond (a1_month == (2 : Int)) (
  (r01_Leap a0_year).bind fun r22_24 =>
  cond r22_24 (
  some (29 : Int)) (
  some (28 : Int))) (
  some (0 : Int)))) (
  cond (a1_month == (6 : Int)) (
  cond (a1_month == (6 : Int)) (
  some (30 : Int)) (
  cond (a1_month == (2 : Int)) (
  (r01_Leap a0_year).bind fun r22_25 =>
  cond r22_25 (
  some (29 : Int)) (
  some (28 : Int))) (
  some (0 : Int)))) (
  cond (a1_month == (9 : Int)) (
  cond (a1_month == (9 : Int)) (
  some (30 : Int)) (
  cond (a1_month == (2 : Int)) (
  (r01_Leap a0_year).bind fun r22_26 =>
  cond r22_26 (
  some (29 : Int)) (
  some (28 : Int))) (
  some (0 : Int)))) (
  cond (a1_month == (11 : Int)) (
  some (30 : Int)) (
  cond (a1_month == (2 : Int)) (
  (r01_Leap a0_year).bind fun r22_27 =>
  cond r22_27 (
  some (29 : Int)) (
  some (28 : Int))) (
  some (0 : Int)))))))))))))

def r01_Valid (a0_d : (Int × (Int × Int))) : Option (Bool) :=
  cond (decide (a0_d.1 ≥ (1970 : Int))) (
  cond (decide (a0_d.1 ≤ (2240 : Int))) (
  cond (decide (a0_d.2.1 ≥ (1 : Int))) (
  cond (decide (a0_d.2.1 ≤ (12 : Int))) (
  cond (decide (a0_d.2.2 ≥ (1 : Int))) (
  (r01_Days a0_d.1 a0_d.2.1).bind fun r33 =>
  some (decide (a0_d.2.2 ≤ r33))) (
  some false)) (
  some false)) (
  some false)) (
  some false)) (
  some false)

def r01_year (a0_y : Int) : Option (Int) :=
  let t4 : Int := (w64 (a0_y - (1970 : Int)))
  let t5 : Int := (w64 (t4 * (365 : Int)))
  let t7 : Int := (w64 (a0_y - (1969 : Int)))
  let t8 : Int := (w64 (Int.tdiv t7 (4 : Int)))
  let t9 : Int := (w64 (t5 + t8))
  let t11 : Int := (w64 (a0_y - (1901 : Int)))
  let t12 : Int := (w64 (Int.tdiv t11 (100 : Int)))
  let t13 : Int := (w64 (t9 - t12))
  let t15 : Int := (w64 (a0_y - (1601 : Int)))
  let t16 : Int := (w64 (Int.tdiv t15 (400 : Int)))
  let t17 : Int := (w64 (t13 + t16))
  some t17

def r01_Day_l0_step (s4 : Int) (s5 : Int) (b1 : Int) (b1_1 : Int) (b1_2 : Int) : Option ((Int × Int × Int × Int × Int) ⊕ ((Int × Int × Int × Int))) :=
  cond (decide (s5 < b1_1)) (
  (r01_Days b1 s5).bind fun r22_1 =>
  let t23_1 : Int := (w64 (s4 + r22_1))
  let t17_1 : Int := (w64 (s5 + (1 : Int)))
  some (.inl (t23_1, t17_1, b1, b1_1, b1_2))) (
  some (.inr (s4, b1, b1_1, b1_2)))

def r01_Day_l0 (s4 : Int) (s5 : Int) (b1 : Int) (b1_1 : Int) (b1_2 : Int) : Option ((Int × Int × Int × Int)) :=
  loopOpt (fun h : Int × Int × Int × Int × Int => r01_Day_l0_step h.1 h.2.1 h.2.2.1 h.2.2.2.1 h.2.2.2.2) (s4, s5, b1, b1_1, b1_2)

theorem r01_Day_l0_eq (s4 : Int) (s5 : Int) (b1 : Int) (b1_1 : Int) (b1_2 : Int) : r01_Day_l0 s4 s5 b1 b1_1 b1_2 = lpK (r01_Day_l0_step s4 s5 b1 b1_1 b1_2) (fun h => r01_Day_l0 h.1 h.2.1 h.2.2.1 h.2.2.2.1 h.2.2.2.2) := loopOpt_eq _ _

def r01_Day (a0_d : (Int × (Int × Int))) : Option (Int × Int) :=
  (r01_Valid (a0_d.1, (a0_d.2.1, a0_d.2.2))).bind fun r7 =>
  cond (!r7) (
  some ((0 : Int), (1 : Int))) (
  (r01_year a0_d.1).bind fun r11 =>
  (r01_Day_l0 r11 (1 : Int) a0_d.1 a0_d.2.1 a0_d.2.2).bind fun q0 =>
  let t27 : Int := (w64 (q0.1 + q0.2.2.2))
  let t28 : Int := (w64 (t27 - (1 : Int)))
  some (t28, (0 : Int)))

def r01_AddMonths (a0_d : (Int × (Int × Int))) (a1_n : Int) : Option ((Int × (Int × Int)) × Int) :=
  (r01_Valid (a0_d.1, (a0_d.2.1, a0_d.2.2))).bind fun r9 =>
  let t18 : Bool := (cond (cond (!r9) true (decide (a1_n < (-4800 : Int)))) true (decide (a1_n > (4800 : Int))))
  cond t18 (
  some (((0 : Int), ((0 : Int), (0 : Int))), (1 : Int))) (
  let t22 : Int := (w64 (a0_d.1 * (12 : Int)))
  let t25 : Int := (w64 (t22 + a0_d.2.1))
  let t26 : Int := (w64 (t25 - (1 : Int)))
  let t28 : Int := (w64 (t26 + a1_n))
  let t30 : Int := (w64 (Int.tdiv t28 (12 : Int)))
  let t32 : Int := (Int.tmod t28 (12 : Int))
  let t33 : Int := (w64 (t32 + (1 : Int)))
  (r01_Days t30 t33).bind fun r43 =>
  let t44 : Int := (if r43 < a0_d.2.2 then r43 else a0_d.2.2 : Int)
  cond (decide (t28 < (0 : Int))) (
  some (((0 : Int), ((0 : Int), (0 : Int))), (1 : Int))) (
  (r01_Valid (t30, (t33, t44))).bind fun r50 =>
  cond (!r50) (
  some (((0 : Int), ((0 : Int), (0 : Int))), (1 : Int))) (
  some ((t30, (t33, t44)), (0 : Int)))))

def r01_Weekday (a0_day : Int) : Option (Int) :=
  let t4 : Int := (Int.tmod a0_day (7 : Int))
  let t5 : Int := (w64 (t4 + (10 : Int)))
  let t6 : Int := (Int.tmod t5 (7 : Int))
  some t6

def r01_Week (a0_d : (Int × (Int × Int))) : Option (Int × Int × Int) :=
  (r01_Day (a0_d.1, (a0_d.2.1, a0_d.2.2))).bind fun r12 =>
  cond (r12.2 != (0 : Int)) (
  some ((0 : Int), (0 : Int), r12.2)) (
  (r01_Weekday r12.1).bind fun r20 =>
  let t21 : Int := (w64 (r12.1 - r20))
  let t22 : Int := (w64 (t21 + (3 : Int)))
  (r01_year a0_d.1).bind fun r27 =>
  cond (decide (t22 < r27)) (
  let t30 : Int := (w64 (a0_d.1 - (1 : Int)))
  (r01_year t30).bind fun r46 =>
  cond (decide (t30 < (1970 : Int))) (
  let t52 : Int := (w64 (t22 - (-365 : Int)))
  let t53 : Int := (w64 (Int.tdiv t52 (7 : Int)))
  let t54 : Int := (w64 (t53 + (1 : Int)))
  some (t30, t54, (0 : Int))) (
  let t52_1 : Int := (w64 (t22 - r46))
  let t53_1 : Int := (w64 (Int.tdiv t52_1 (7 : Int)))
  let t54_1 : Int := (w64 (t53_1 + (1 : Int)))
  some (t30, t54_1, (0 : Int)))) (
  (r01_year a0_d.1).bind fun r33 =>
  let t34 : Int := (w64 (r33 + (365 : Int)))
  let t39 : Int := (w64 (a0_d.1 + (1 : Int)))
  cond (decide (t22 ≥ t34)) (
  (r01_year t39).bind fun r40 =>
  cond (decide (t22 ≥ r40)) (
  let t44 : Int := (w64 (a0_d.1 + (1 : Int)))
  (r01_year t44).bind fun r46_1 =>
  cond (decide (t44 < (1970 : Int))) (
  let t52_2 : Int := (w64 (t22 - (-365 : Int)))
  let t53_2 : Int := (w64 (Int.tdiv t52_2 (7 : Int)))
  let t54_2 : Int := (w64 (t53_2 + (1 : Int)))
  some (t44, t54_2, (0 : Int))) (
  let t52_3 : Int := (w64 (t22 - r46_1))
  let t53_3 : Int := (w64 (Int.tdiv t52_3 (7 : Int)))
  let t54_3 : Int := (w64 (t53_3 + (1 : Int)))
  some (t44, t54_3, (0 : Int)))) (
  (r01_year a0_d.1).bind fun r46_2 =>
  cond (decide (a0_d.1 < (1970 : Int))) (
  let t52_4 : Int := (w64 (t22 - (-365 : Int)))
  let t53_4 : Int := (w64 (Int.tdiv t52_4 (7 : Int)))
  let t54_4 : Int := (w64 (t53_4 + (1 : Int)))
  some (a0_d.1, t54_4, (0 : Int))) (
  let t52_5 : Int := (w64 (t22 - r46_2))
  let t53_5 : Int := (w64 (Int.tdiv t52_5 (7 : Int)))
  let t54_5 : Int := (w64 (t53_5 + (1 : Int)))
  some (a0_d.1, t54_5, (0 : Int))))) (
  (r01_year a0_d.1).bind fun r46_3 =>
  cond (decide (a0_d.1 < (1970 : Int))) (
  let t52_6 : Int := (w64 (t22 - (-365 : Int)))
  let t53_6 : Int := (w64 (Int.tdiv t52_6 (7 : Int)))
  let t54_6 : Int := (w64 (t53_6 + (1 : Int)))
  some (a0_d.1, t54_6, (0 : Int))) (
  let t52_7 : Int := (w64 (t22 - r46_3))
  let t53_7 : Int := (w64 (Int.tdiv t52_7 (7 : Int)))
  let t54_7 : Int := (w64 (t53_7 + (1 : Int)))
  some (a0_d.1, t54_7, (0 : Int))))))

def r01_Nth_l0_step (s0 : Int) (s1 : Int) (s2 : Int) (s3 : Int) (s10 : Int) (s12 : Int) : Option ((Int × Int × Int × Int × Int × Int) ⊕ ((Int × Int × Int × Int × Int))) :=
  (r01_Weekday s12).bind fun r40_1 =>
  cond (r40_1 != s3) (
  let t44_1 : Int := (w64 (s12 + (1 : Int)))
  some (.inl (s0, s1, s2, s3, s10, t44_1))) (
  some (.inr (s0, s1, s2, s10, s12)))

def r01_Nth_l0 (s0 : Int) (s1 : Int) (s2 : Int) (s3 : Int) (s10 : Int) (s12 : Int) : Option ((Int × Int × Int × Int × Int)) :=
  loopOpt (fun h : Int × Int × Int × Int × Int × Int => r01_Nth_l0_step h.1 h.2.1 h.2.2.1 h.2.2.2.1 h.2.2.2.2.1 h.2.2.2.2.2) (s0, s1, s2, s3, s10, s12)

theorem r01_Nth_l0_eq (s0 : Int) (s1 : Int) (s2 : Int) (s3 : Int) (s10 : Int) (s12 : Int) : r01_Nth_l0 s0 s1 s2 s3 s10 s12 = lpK (r01_Nth_l0_step s0 s1 s2 s3 s10 s12) (fun h => r01_Nth_l0 h.1 h.2.1 h.2.2.1 h.2.2.2.1 h.2.2.2.2.1 h.2.2.2.2.2) := loopOpt_eq _ _

def r01_Nth_l2_step (s0 : Int) (s1 : Int) (s10 : Int) (s12 : Int) : Option ((Int × Int × Int × Int) ⊕ (Int)) :=
  let t53_1 : Int := (w64 (s12 + (7 : Int)))
  (r01_Days s0 s1).bind fun r57_1 =>
  let t58_1 : Int := (w64 (s10 + r57_1))
  cond (decide (t53_1 < t58_1)) (
  let t61_1 : Int := (w64 (s12 + (7 : Int)))
  some (.inl (s0, s1, s10, t61_1))) (
  some (.inr s12))

def r01_Nth_l2 (s0 : Int) (s1 : Int) (s10 : Int) (s12 : Int) : Option (Int) :=
  loopOpt (fun h : Int × Int × Int × Int => r01_Nth_l2_step h.1 h.2.1 h.2.2.1 h.2.2.2) (s0, s1, s10, s12)

theorem r01_Nth_l2_eq (s0 : Int) (s1 : Int) (s10 : Int) (s12 : Int) : r01_Nth_l2 s0 s1 s10 s12 = lpK (r01_Nth_l2_step s0 s1 s10 s12) (fun h => r01_Nth_l2 h.1 h.2.1 h.2.2.1 h.2.2.2) := loopOpt_eq _ _

def r01_Nth (a0_y : Int) (a1_month : Int) (a2_week : Int) (a3_weekday : Int) : Option (Int × Int) :=
  (r01_Day (a0_y, (a1_month, (1 : Int)))).bind fun r17 =>
  let t29 : Bool := (cond (cond (r17.2 != (0 : Int)) true (decide (a2_week < (1 : Int)))) true (decide (a2_week > (5 : Int))))
  let t37 : Bool := (cond (cond t29 true (decide (a3_weekday < (0 : Int)))) true (decide (a3_weekday > (6 : Int))))
  cond t37 (
  some ((0 : Int), (1 : Int))) (
  (r01_Nth_l0 a0_y a1_month a2_week a3_weekday r17.1 r17.1).bind fun q0 =>
  cond (decide (q0.2.2.1 < (5 : Int))) (
  let t49 : Int := (w64 (q0.2.2.1 - (1 : Int)))
  let t50 : Int := (w64 ((7 : Int) * t49))
  let t51 : Int := (w64 (q0.2.2.2.2 + t50))
  some (t51, (0 : Int))) (
  (r01_Nth_l2 q0.1 q0.2.1 q0.2.2.2.1 q0.2.2.2.2).bind fun q2 =>
  some (q2, (0 : Int))))

def civil_DateOf_l0_step (s5 : Int) (b2 : Int) (b2_1 : Int) (b2_2 : Int) (b4 : Int) (b4_1 : Int) (b4_2 : Int) : Option ((Int × Int × Int × Int × Int × Int × Int) ⊕ ((Int × Int × Int × Int × Int × Int × Int))) :=
  (civil_Days b4 b4_1).bind fun r28_1 =>
  cond (decide (s5 ≥ r28_1)) (
  (civil_Days b4 b4_1).bind fun r35_1 =>
  let t36_1 : Int := (w64 (s5 - r35_1))
  let t39_1 : Int := (w64 (b4_1 + (1 : Int)))
  some (.inl (t36_1, b2, b2_1, b2_2, b4, t39_1, b4_2))) (
  some (.inr (s5, b2, b2_1, b2_2, b4, b4_1, b4_2)))

def civil_DateOf_l0 (s5 : Int) (b2 : Int) (b2_1 : Int) (b2_2 : Int) (b4 : Int) (b4_1 : Int) (b4_2 : Int) : Option ((Int × Int × Int × Int × Int × Int × Int)) :=
  loopOpt (fun h : Int × Int × Int × Int × Int × Int × Int => civil_DateOf_l0_step h.1 h.2.1 h.2.2.1 h.2.2.2.1 h.2.2.2.2.1 h.2.2.2.2.2.1 h.2.2.2.2.2.2) (s5, b2, b2_1, b2_2, b4, b4_1, b4_2)

theorem civil_DateOf_l0_eq (s5 : Int) (b2 : Int) (b2_1 : Int) (b2_2 : Int) (b4 : Int) (b4_1 : Int) (b4_2 : Int) : civil_DateOf_l0 s5 b2 b2_1 b2_2 b4 b4_1 b4_2 = lpK (civil_DateOf_l0_step s5 b2 b2_1 b2_2 b4 b4_1 b4_2) (fun h => civil_DateOf_l0 h.1 h.2.1 h.2.2.1 h.2.2.2.1 h.2.2.2.2.1 h.2.2.2.2.2.1 h.2.2.2.2.2.2) := loopOpt_eq _ _

def civil_DateOf (a0_day : Int) : Option ((Int × (Int × Int)) × Int) :=
  (civil_count (1970 : Int)).bind fun r7 =>
  cond (decide (a0_day < r7)) (
  some (((0 : Int), ((0 : Int), (0 : Int))), (1 : Int))) (
  (civil_count (2241 : Int)).bind fun r11 =>
  cond (decide (a0_day ≥ r11)) (
  some (((0 : Int), ((0 : Int), (0 : Int))), (1 : Int))) (
  (civil_year a0_day).bind fun r16 =>
  (civil_count r16).bind fun r21 =>
  let t22 : Int := (w64 (a0_day - r21))
  (civil_DateOf_l0 t22 (0 : Int) (0 : Int) (0 : Int) r16 (1 : Int) (0 : Int)).bind fun q0 =>
  let t42 : Int := (w64 (q0.1 + (1 : Int)))
  some ((q0.2.2.2.2.1, (q0.2.2.2.2.2.1, t42)), (0 : Int))))

def r01_MaxDay  : Option (Int) :=
  (r01_year (2241 : Int)).bind fun r1 =>
  let t2 : Int := (w64 (r1 - (1 : Int)))
  some t2

def r01_DateOf_l0_step (s0 : Int) (s4 : Int) (b2 : Int) (b2_1 : Int) (b2_2 : Int) : Option ((Int × Int × Int × Int × Int) ⊕ ((Int × Int × Int × Int × Int))) :=
  let t16_1 : Int := (w64 (s4 + (1 : Int)))
  (r01_year t16_1).bind fun r17_1 =>
  (r01_year s4).bind fun r19_1 =>
  let t20_1 : Int := (w64 (r17_1 - r19_1))
  cond (decide (s0 ≥ t20_1)) (
  let t24_1 : Int := (w64 (s4 + (1 : Int)))
  (r01_year t24_1).bind fun r25_1 =>
  (r01_year s4).bind fun r27_1 =>
  let t28_1 : Int := (w64 (r25_1 - r27_1))
  let t29_1 : Int := (w64 (s0 - t28_1))
  let t31_1 : Int := (w64 (s4 + (1 : Int)))
  some (.inl (t29_1, t31_1, b2, b2_1, b2_2))) (
  some (.inr (s0, s4, b2, b2_1, b2_2)))

def r01_DateOf_l0 (s0 : Int) (s4 : Int) (b2 : Int) (b2_1 : Int) (b2_2 : Int) : Option ((Int × Int × Int × Int × Int)) :=
  loopOpt (fun h : Int × Int × Int × Int × Int => r01_DateOf_l0_step h.1 h.2.1 h.2.2.1 h.2.2.2.1 h.2.2.2.2) (s0, s4, b2, b2_1, b2_2)

theorem r01_DateOf_l0_eq (s0 : Int) (s4 : Int) (b2 : Int) (b2_1 : Int) (b2_2 : Int) : r01_DateOf_l0 s0 s4 b2 b2_1 b2_2 = lpK (r01_DateOf_l0_step s0 s4 b2 b2_1 b2_2) (fun h => r01_DateOf_l0 h.1 h.2.1 h.2.2.1 h.2.2.2.1 h.2.2.2.2) := loopOpt_eq _ _

def r01_DateOf_l2_step (s0 : Int) (s4 : Int) (s5 : Int) (b2 : Int) (b2_1 : Int) (b2_2 : Int) : Option ((Int × Int × Int × Int × Int × Int) ⊕ ((Int × Int × Int × Int × Int × Int))) :=
  (r01_Days s4 s5).bind fun r35_1 =>
  cond (decide (s0 ≥ r35_1)) (
  (r01_Days s4 s5).bind fun r40_1 =>
  let t41_1 : Int := (w64 (s0 - r40_1))
  let t43_1 : Int := (w64 (s5 + (1 : Int)))
  some (.inl (t41_1, s4, t43_1, b2, b2_1, b2_2))) (
  some (.inr (s0, s4, s5, b2, b2_1, b2_2)))

def r01_DateOf_l2 (s0 : Int) (s4 : Int) (s5 : Int) (b2 : Int) (b2_1 : Int) (b2_2 : Int) : Option ((Int × Int × Int × Int × Int × Int)) :=
  loopOpt (fun h : Int × Int × Int × Int × Int × Int => r01_DateOf_l2_step h.1 h.2.1 h.2.2.1 h.2.2.2.1 h.2.2.2.2.1 h.2.2.2.2.2) (s0, s4, s5, b2, b2_1, b2_2)

theorem r01_DateOf_l2_eq (s0 : Int) (s4 : Int) (s5 : Int) (b2 : Int) (b2_1 : Int) (b2_2 : Int) : r01_DateOf_l2 s0 s4 s5 b2 b2_1 b2_2 = lpK (r01_DateOf_l2_step s0 s4 s5 b2 b2_1 b2_2) (fun h => r01_DateOf_l2 h.1 h.2.1 h.2.2.1 h.2.2.2.1 h.2.2.2.2.1 h.2.2.2.2.2) := loopOpt_eq _ _

def r01_DateOf (a0_day : Int) : Option ((Int × (Int × Int)) × Int) :=
  cond (decide (a0_day < (0 : Int))) (
  some (((0 : Int), ((0 : Int), (0 : Int))), (1 : Int))) (
  (r01_MaxDay).bind fun r10 =>
  cond (decide (a0_day > r10)) (
  some (((0 : Int), ((0 : Int), (0 : Int))), (1 : Int))) (
  (r01_DateOf_l0 a0_day (1970 : Int) (0 : Int) (0 : Int) (0 : Int)).bind fun q0 =>
  (r01_DateOf_l2 q0.1 q0.2.1 (1 : Int) q0.2.2.1 q0.2.2.2.1 q0.2.2.2.2).bind fun q2 =>
  let t47 : Int := (w64 (q2.1 + (1 : Int)))
  some ((q2.2.1, (q2.2.2.1, t47)), (0 : Int))))

def law01_CivilExact_l0_step (s2 : Int) (s3 : Int) (s55 : (List (Int × (Int × Int)))) (s56 : Int) (b10 : Int) (b10_1 : Int) (b10_2 : Int) : Option ((Int × Int × (List (Int × (Int × Int))) × Int × Int × Int × Int) ⊕ (Bool ⊕ (Int × Int × Int × Int × Int))) :=
  cond (decide (s56 < (2 : Int))) (
  cond (inR s56 2) (
  let t58_1 : (Int × (Int × Int)) := (List.getD s55 (Int.toNat s56) ((0 : Int), ((0 : Int), (0 : Int))))
  (civil_Day (t58_1.1, (t58_1.2.1, t58_1.2.2))).bind fun r61_1 =>
  (r01_Day (t58_1.1, (t58_1.2.1, t58_1.2.2))).bind fun r66_1 =>
  let t72_1 : Int := (Int.tmod s3 (4000 : Int))
  (civil_AddMonths (t58_1.1, (t58_1.2.1, t58_1.2.2)) t72_1).bind fun r73_1 =>
  let t79_1 : Int := (Int.tmod s3 (4000 : Int))
  (r01_AddMonths (t58_1.1, (t58_1.2.1, t58_1.2.2)) t79_1).bind fun r80_1 =>
  (civil_Week (t58_1.1, (t58_1.2.1, t58_1.2.2))).bind fun r85_1 =>
  (r01_Week (t58_1.1, (t58_1.2.1, t58_1.2.2))).bind fun r91_1 =>
  cond (r61_1.1 != r66_1.1) (
  some (.inr (.inl false))) (
  cond (r61_1.2 != r66_1.2) (
  some (.inr (.inl false))) (
  let t106 : Bool := (!((r73_1.1.1 == r80_1.1.1) && ((r73_1.1.2.1 == r80_1.1.2.1) && (r73_1.1.2.2 == r80_1.1.2.2))))
  cond t106 (
  some (.inr (.inl false))) (
  cond (r73_1.2 != r80_1.2) (
  some (.inr (.inl false))) (
  cond (r85_1.1 != r91_1.1) (
  some (.inr (.inl false))) (
  cond (r85_1.2.1 != r91_1.2.1) (
  some (.inr (.inl false))) (
  cond (r85_1.2.2 != r91_1.2.2) (
  some (.inr (.inl false))) (
  (civil_Valid (t58_1.1, (t58_1.2.1, t58_1.2.2))).bind fun r130_1 =>
  (r01_Valid (t58_1.1, (t58_1.2.1, t58_1.2.2))).bind fun r132_1 =>
  cond (!(r130_1 == r132_1)) (
  some (.inr (.inl false))) (
  (civil_Leap t58_1.1).bind fun r138_1 =>
  (r01_Leap t58_1.1).bind fun r141_1 =>
  cond (!(r138_1 == r141_1)) (
  some (.inr (.inl false))) (
  (civil_Days t58_1.1 t58_1.2.1).bind fun r149_1 =>
  (r01_Days t58_1.1 t58_1.2.1).bind fun r154_1 =>
  cond (r149_1 != r154_1) (
  some (.inr (.inl false))) (
  (made_Mod s3 (7 : Int)).bind fun r163_1 =>
  (made_Mod s2 (9 : Int)).bind fun r165_1 =>
  let t166_1 : Int := (w64 (r165_1 - (1 : Int)))
  (civil_Nth t58_1.1 t58_1.2.1 r163_1 t166_1).bind fun r167_1 =>
  (made_Mod s3 (7 : Int)).bind fun r176_1 =>
  (made_Mod s2 (9 : Int)).bind fun r178_1 =>
  let t179_1 : Int := (w64 (r178_1 - (1 : Int)))
  (r01_Nth t58_1.1 t58_1.2.1 r176_1 t179_1).bind fun r180_1 =>
  cond (cond (r167_1.1 != r180_1.1) true (r167_1.2 != r180_1.2)) (
  some (.inr (.inl false))) (
  let t191_1 : Int := (w64 (s56 + (1 : Int)))
  some (.inl (s2, s3, s55, t191_1, b10, b10_1, b10_2)))))))))))))) none) (
  some (.inr (.inr (s2, s3, b10, b10_1, b10_2))))

def law01_CivilExact_l0 (s2 : Int) (s3 : Int) (s55 : (List (Int × (Int × Int)))) (s56 : Int) (b10 : Int) (b10_1 : Int) (b10_2 : Int) : Option (Bool ⊕ (Int × Int × Int × Int × Int)) :=
  loopOpt (fun h : Int × Int × (List (Int × (Int × Int))) × Int × Int × Int × Int => law01_CivilExact_l0_step h.1 h.2.1 h.2.2.1 h.2.2.2.1 h.2.2.2.2.1 h.2.2.2.2.2.1 h.2.2.2.2.2.2) (s2, s3, s55, s56, b10, b10_1, b10_2)

theorem law01_CivilExact_l0_eq (s2 : Int) (s3 : Int) (s55 : (List (Int × (Int × Int)))) (s56 : Int) (b10 : Int) (b10_1 : Int) (b10_2 : Int) : law01_CivilExact_l0 s2 s3 s55 s56 b10 b10_1 b10_2 = lpK (law01_CivilExact_l0_step s2 s3 s55 s56 b10 b10_1 b10_2) (fun h => law01_CivilExact_l0 h.1 h.2.1 h.2.2.1 h.2.2.2.1 h.2.2.2.2.1 h.2.2.2.2.2.1 h.2.2.2.2.2.2) := loopOpt_eq _ _

def law01_CivilExact_l2_step (s3 : Int) (s198 : (List Int)) (s199 : Int) (b10 : Int) (b10_1 : Int) (b10_2 : Int) : Option ((Int × (List Int) × Int × Int × Int × Int) ⊕ (Bool ⊕ (Int × Int × Int × Int))) :=
  cond (decide (s199 < (3 : Int))) (
  cond (inR s199 3) (
  let t201_1 : Int := (List.getD s198 (Int.toNat s199) (0 : Int))
  (civil_DateOf t201_1).bind fun r204_1 =>
  (r01_DateOf t201_1).bind fun r209_1 =>
  let t214 : Bool := (!((r204_1.1.1 == r209_1.1.1) && ((r204_1.1.2.1 == r209_1.1.2.1) && (r204_1.1.2.2 == r209_1.1.2.2))))
  cond (cond t214 true (r204_1.2 != r209_1.2)) (
  some (.inr (.inl false))) (
  (civil_Weekday t201_1).bind fun r222_1 =>
  (r01_Weekday t201_1).bind fun r224_1 =>
  cond (r222_1 != r224_1) (
  some (.inr (.inl false))) (
  let t227_1 : Int := (w64 (s199 + (1 : Int)))
  some (.inl (s3, s198, t227_1, b10, b10_1, b10_2))))) none) (
  some (.inr (.inr (s3, b10, b10_1, b10_2))))

def law01_CivilExact_l2 (s3 : Int) (s198 : (List Int)) (s199 : Int) (b10 : Int) (b10_1 : Int) (b10_2 : Int) : Option (Bool ⊕ (Int × Int × Int × Int)) :=
  loopOpt (fun h : Int × (List Int) × Int × Int × Int × Int => law01_CivilExact_l2_step h.1 h.2.1 h.2.2.1 h.2.2.2.1 h.2.2.2.2.1 h.2.2.2.2.2) (s3, s198, s199, b10, b10_1, b10_2)

theorem law01_CivilExact_l2_eq (s3 : Int) (s198 : (List Int)) (s199 : Int) (b10 : Int) (b10_1 : Int) (b10_2 : Int) : law01_CivilExact_l2 s3 s198 s199 b10 b10_1 b10_2 = lpK (law01_CivilExact_l2_step s3 s198 s199 b10 b10_1 b10_2) (fun h => law01_CivilExact_l2 h.1 h.2.1 h.2.2.1 h.2.2.2.1 h.2.2.2.2.1 h.2.2.2.2.2) := loopOpt_eq _ _

def law01_CivilExact (a0_year : Int) (a1_month : Int) (a2_day : Int) (a3_n : Int) : Option (Bool) :=
  (made_Mod a0_year (275 : Int)).bind fun r46 =>
  let t47 : Int := (w64 ((1968 : Int) + r46))
  (made_Mod a1_month (14 : Int)).bind fun r49 =>
  (made_Mod a2_day (33 : Int)).bind fun r51 =>
  let t55 : (List (Int × (Int × Int))) := [(a0_year, (a1_month, a2_day)), (t47, (r49, r51))]
  (law01_CivilExact_l0 a2_day a3_n t55 (0 : Int) t47 r49 r51).bind fun q0 =>
  sumC q0 (fun a =>
  some a) (fun b =>
  (made_Mod b.2.1 (99500 : Int)).bind fun r194 =>
  let t195 : Int := (w64 (r194 - (200 : Int)))
  (made_Mod b.2.1 (3 : Int)).bind fun r197 =>
  let t198 : (List Int) := [b.1, t195, r197]
  (law01_CivilExact_l2 b.2.1 t198 (0 : Int) b.2.2.1 b.2.2.2.1 b.2.2.2.2).bind fun q2 =>
  sumC q2 (fun a_1 =>
  some a_1) (fun b_1 =>
  (civil_AddMonths (b_1.2.1, (b_1.2.2.1, b_1.2.2.2)) b_1.1).bind fun r231 =>
  (r01_AddMonths (b_1.2.1, (b_1.2.2.1, b_1.2.2.2)) b_1.1).bind fun r237 =>
  let t247 : Bool := (cond ((r231.1.1 == r237.1.1) && ((r231.1.2.1 == r237.1.2.1) && (r231.1.2.2 == r237.1.2.2))) (r231.2 == r237.2) false)
  cond t247 (
  (law01_sane).bind fun r249 =>
  some r249) (
  some false)))

def law01_CivilBack (a0_n : Int) : Option (Bool) :=
  (made_Mod a0_n (98900 : Int)).bind fun r12 =>
  (civil_DateOf r12).bind fun r15 =>
  let t20 : Int := (w64 (r12 + (1 : Int)))
  (civil_DateOf t20).bind fun r21 =>
  (civil_Day (r15.1.1, (r15.1.2.1, r15.1.2.2))).bind fun r26 =>
  let t43 : Bool := (cond (cond (cond (r15.2 != (0 : Int)) true (r21.2 != (0 : Int))) true (r26.2 != (0 : Int))) true (r26.1 != r12))
  cond t43 (
  let t51 : Int := (w64 (r12 + (1 : Int)))
  some false) (
  (civil_Valid (r15.1.1, (r15.1.2.1, r15.1.2.2))).bind fun r46 =>
  let t51_1 : Int := (w64 (r12 + (1 : Int)))
  cond (!r46) (
  some false) (
  (civil_Weekday t51_1).bind fun r52 =>
  (civil_Weekday r12).bind fun r54 =>
  let t55 : Int := (w64 (r54 + (1 : Int)))
  let t56 : Int := (Int.tmod t55 (7 : Int))
  cond (r52 != t56) (
  some false) (
  let t66 : Int := (w64 (r15.1.2.2 + (1 : Int)))
  (civil_Days r15.1.1 r15.1.2.1).bind fun r75 =>
  cond (r15.1.2.2 == r75) (
  let t91 : Int := (w64 (r15.1.2.1 + (1 : Int)))
  let t99 : Int := (w64 (r15.1.1 + (1 : Int)))
  let t110 : Bool := (cond (cond (r21.1.1 == t99) (r21.1.2.1 == (1 : Int)) false) (r15.1.2.1 == (12 : Int)) false)
  let t112 : Bool := (cond (r21.1.2.2 == (1 : Int)) (cond (cond (r21.1.1 == r15.1.1) (r21.1.2.1 == t91) false) true t110) false)
  cond t112 (
  (law01_sane).bind fun r115 =>
  some r115) (
  some false)) (
  cond ((r21.1.1 == r15.1.1) && ((r21.1.2.1 == r15.1.2.1) && (r21.1.2.2 == t66))) (
  (law01_sane).bind fun r115_1 =>
  some r115_1) (
  some false)))))

def law01_CivilMonths (a0_n : Int) (a1_a : Int) (a2_b : Int) : Option (Bool) :=
  (made_Mod a0_n (20000 : Int)).bind fun r19 =>
  let t20 : Int := (w64 ((20000 : Int) + r19))
  (civil_DateOf t20).bind fun r21 =>
  (made_Mod a1_a (400 : Int)).bind fun r25 =>
  let t26 : Int := (w64 (r25 - (200 : Int)))
  (made_Mod a2_b (400 : Int)).bind fun r28 =>
  let t29 : Int := (w64 (r28 - (200 : Int)))
  (civil_AddMonths (r21.1.1, (r21.1.2.1, r21.1.2.2)) t26).bind fun r33 =>
  (civil_AddMonths (r33.1.1, (r33.1.2.1, r33.1.2.2)) t29).bind fun r39 =>
  let t46 : Int := (w64 (t26 + t29))
  (civil_AddMonths (r21.1.1, (r21.1.2.1, r21.1.2.2)) t46).bind fun r47 =>
  let t53 : Int := (w64 (0 - t26))
  (civil_AddMonths (r33.1.1, (r33.1.2.1, r33.1.2.2)) t53).bind fun r54 =>
  cond (r21.2 != (0 : Int)) (
  some false) (
  cond (r33.2 != (0 : Int)) (
  some false) (
  cond (r39.2 != (0 : Int)) (
  some false) (
  cond (r47.2 != (0 : Int)) (
  some false) (
  cond (r54.2 != (0 : Int)) (
  some false) (
  cond (r39.1.1 != r47.1.1) (
  some false) (
  cond (r39.1.2.1 != r47.1.2.1) (
  some false) (
  cond (decide (r39.1.2.2 > r47.1.2.2)) (
  some false) (
  (civil_Days r33.1.1 r33.1.2.1).bind fun r105 =>
  let t106 : Int := (if r105 < r21.1.2.2 then r105 else r21.1.2.2 : Int)
  cond (r33.1.2.2 != t106) (
  some false) (
  let t120 : Bool := (cond ((r54.1.1 == r21.1.1) && ((r54.1.2.1 == r21.1.2.1) && (r54.1.2.2 == r21.1.2.2))) ((r39.1.1 == r47.1.1) && ((r39.1.2.1 == r47.1.2.1) && (r39.1.2.2 == r47.1.2.2))) false)
  cond (cond (decide (r21.1.2.2 > (28 : Int))) true t120) (
  (law01_sane).bind fun r123 =>
  some r123) (
  some false))))))))))

def law01_CivilWeeks_l0_step (s3 : Int) (s6 : Int) (b4 : (List Int)) (b5 : (List Int)) : Option ((Int × Int × (List Int) × (List Int)) ⊕ (Bool ⊕ (Int × (List Int) × (List Int)))) :=
  cond (decide (s6 < (8 : Int))) (
  let t30_1 : Int := (w64 (s3 + s6))
  (civil_DateOf t30_1).bind fun r31_1 =>
  (civil_Week (r31_1.1.1, (r31_1.1.2.1, r31_1.1.2.2))).bind fun r36_1 =>
  let t49_1 : Int := (w64 (s3 + s6))
  cond (cond (r31_1.2 != (0 : Int)) true (r36_1.2.2 != (0 : Int))) (
  let t52_2 : Int := (Int.tmod s6 (7 : Int))
  some (.inr (.inl false))) (
  (civil_Weekday t49_1).bind fun r50_1 =>
  let t52_3 : Int := (Int.tmod s6 (7 : Int))
  cond (r50_1 != t52_3) (
  some (.inr (.inl false))) (
  cond (inR s6 8) (
  let m5_1 : (List Int) := (List.set b4 (Int.toNat s6) r36_1.1)
  cond (inR s6 8) (
  let m7_1 : (List Int) := (List.set b5 (Int.toNat s6) r36_1.2.1)
  let t70_1 : Int := (List.getD m5_1 0 (0 : Int))
  let t75_1 : Int := (List.getD m7_1 0 (0 : Int))
  let t78_1 : Bool := (cond (cond (decide (s6 > (0 : Int))) (decide (s6 < (7 : Int))) false) (cond (r36_1.1 != t70_1) true (r36_1.2.1 != t75_1)) false)
  cond t78_1 (
  some (.inr (.inl false))) (
  let t26_1 : Int := (w64 (s6 + (1 : Int)))
  some (.inl (s3, t26_1, m5_1, m7_1)))) none) none))) (
  some (.inr (.inr (s3, b4, b5))))

def law01_CivilWeeks_l0 (s3 : Int) (s6 : Int) (b4 : (List Int)) (b5 : (List Int)) : Option (Bool ⊕ (Int × (List Int) × (List Int))) :=
  loopOpt (fun h : Int × Int × (List Int) × (List Int) => law01_CivilWeeks_l0_step h.1 h.2.1 h.2.2.1 h.2.2.2) (s3, s6, b4, b5)

theorem law01_CivilWeeks_l0_eq (s3 : Int) (s6 : Int) (b4 : (List Int)) (b5 : (List Int)) : law01_CivilWeeks_l0 s3 s6 b4 b5 = lpK (law01_CivilWeeks_l0_step s3 s6 b4 b5) (fun h => law01_CivilWeeks_l0 h.1 h.2.1 h.2.2.1 h.2.2.2) := loopOpt_eq _ _

def law01_CivilWeeks (a0_n : Int) : Option (Bool) :=
  (made_Mod a0_n (98000 : Int)).bind fun r17 =>
  let t18 : Int := (w64 ((4 : Int) + r17))
  (civil_Weekday t18).bind fun r21 =>
  let t22 : Int := (w64 (t18 - r21))
  let t4 : (List Int) := (List.replicate 8 (0 : Int))
  let t5 : (List Int) := (List.replicate 8 (0 : Int))
  (law01_CivilWeeks_l0 t22 (0 : Int) t4 t5).bind fun q0 =>
  sumC q0 (fun a =>
  some a) (fun b =>
  let t81 : Int := (w64 (b.1 + (3 : Int)))
  (civil_DateOf t81).bind fun r82 =>
  (civil_Day (r82.1.1, ((1 : Int), (1 : Int)))).bind fun r89 =>
  let t102 : Int := (List.getD b.2.1 0 (0 : Int))
  let t107 : Int := (List.getD b.2.2 0 (0 : Int))
  let t109 : Int := (w64 (b.1 + (3 : Int)))
  let t111 : Int := (w64 (t109 - r89.1))
  let t112 : Int := (w64 (Int.tdiv t111 (7 : Int)))
  let t113 : Int := (w64 (t112 + (1 : Int)))
  let t115 : Bool := (cond (cond (cond (r82.2 != (0 : Int)) true (r89.2 != (0 : Int))) true (r82.1.1 != t102)) true (t107 != t113))
  cond t115 (
  some false) (
  let t117 : Int := (List.getD b.2.1 7 (0 : Int))
  let t119 : Int := (List.getD b.2.1 0 (0 : Int))
  let t123 : Int := (List.getD b.2.2 7 (0 : Int))
  let t125 : Int := (List.getD b.2.2 0 (0 : Int))
  let t126 : Int := (w64 (t125 + (1 : Int)))
  let t131 : Int := (List.getD b.2.1 7 (0 : Int))
  let t133 : Int := (List.getD b.2.1 0 (0 : Int))
  let t134 : Int := (w64 (t133 + (1 : Int)))
  let t138 : Int := (List.getD b.2.2 7 (0 : Int))
  let t143 : Int := (List.getD b.2.2 0 (0 : Int))
  let t146 : Bool := (cond (cond (t117 == t119) (t123 == t126) false) true (cond (cond (t131 == t134) (t138 == (1 : Int)) false) (decide (t143 ≥ (52 : Int))) false))
  cond t146 (
  (law01_sane).bind fun r148 =>
  some r148) (
  some false)))
end
end Go.Proofs.Pw
