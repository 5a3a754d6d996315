/- Plain functions, printed by a program out of the given code. -/
import Derived.Test.YtielflihgdebiaaLD
open Go Go.Lft
set_option linter.unusedVariables false
namespace Go.Proofs.Pw
noncomputable section

def law04_example  : Option ((ByteArray × (Int × (List (Int × (Int × (Int × (Int × (Int × (Int × Int)))))))))) :=
  let t3 : (List (Int × (Int × (Int × (Int × (Int × (Int × Int))))))) := [((2020 : Int), ((2030 : Int), ((3 : Int), ((5 : Int), ((6 : Int), ((7200 : Int), (7200 : Int))))))), ((2020 : Int), ((2030 : Int), ((10 : Int), ((5 : Int), ((6 : Int), ((10800 : Int), (3600 : Int)))))))]
  some (ByteArray.empty, ((3600 : Int), t3))

def zone_in (a0_n : Int) (a1_lo : Int) (a2_hi : Int) : Option (Bool) :=
  some (cond (decide (a0_n ≥ a1_lo)) (decide (a0_n ≤ a2_hi)) false)

def zone_rule (a0_r : (Int × (Int × (Int × (Int × (Int × (Int × Int))))))) : Option (Int) :=
  (zone_in a0_r.1 (1970 : Int) (2240 : Int)).bind fun r5 =>
  cond (!r5) (
  some (1 : Int)) (
  (zone_in a0_r.2.1 a0_r.1 (2240 : Int)).bind fun r12 =>
  cond (!r12) (
  some (1 : Int)) (
  (zone_in a0_r.2.2.1 (1 : Int) (12 : Int)).bind fun r18 =>
  cond (!r18) (
  some (1 : Int)) (
  (zone_in a0_r.2.2.2.1 (1 : Int) (5 : Int)).bind fun r24 =>
  cond (!r24) (
  some (1 : Int)) (
  (zone_in a0_r.2.2.2.2.1 (0 : Int) (6 : Int)).bind fun r30 =>
  cond (!r30) (
  some (1 : Int)) (
  (zone_in a0_r.2.2.2.2.2.1 (0 : Int) (86399 : Int)).bind fun r36 =>
  cond (!r36) (
  some (1 : Int)) (
  (zone_in a0_r.2.2.2.2.2.2 (-64800 : Int) (64800 : Int)).bind fun r42 =>
  cond (!r42) (
  some (1 : Int)) (
  some (0 : Int))))))))

def civil_Leap (a0_year : Int) : Option (Bool) :=
  let t4 : Int := (Int.tmod a0_year (4 : Int))
  let t8 : Int := (Int.tmod a0_year (100 : Int))
  let t12 : Int := (Int.tmod a0_year (400 : Int))
  some (cond (t4 == (0 : Int)) (cond (t8 != (0 : Int)) true (t12 == (0 : Int))) false)

def civil_Days (a0_year : Int) (a1_month : Int) : Option (Int) :=
  cond (cond (decide (a1_month < (1 : Int))) true (decide (a1_month > (12 : Int)))) (
  some (0 : Int)) (
  let t12 : (List Int) := [(31 : Int), (28 : Int), (31 : Int), (30 : Int), (31 : Int), (30 : Int), (31 : Int), (31 : Int), (30 : Int), (31 : Int), (30 : Int), (31 : Int)]
  let t5 : (List Int) := (List.replicate 12 (0 : Int))
  cond (a1_month == (2 : Int)) (
  (civil_Leap a0_year).bind fun r18 =>
  cond r18 (
  some (29 : Int)) (
  let t21 : Int := (w64 (a1_month - (1 : Int)))
  cond (inR t21 12) (
  let t23 : Int := (List.getD t12 (Int.toNat t21) (0 : Int))
  some t23) none)) (
  let t21_1 : Int := (w64 (a1_month - (1 : Int)))
  cond (inR t21_1 12) (
  let t23_1 : Int := (List.getD t12 (Int.toNat t21_1) (0 : Int))
  some t23_1) none))

def civil_Valid (a0_d : (Int × (Int × Int))) : Option (Bool) :=
  cond (decide (a0_d.1 ≥ (1970 : Int))) (
  cond (decide (a0_d.1 ≤ (2240 : Int))) (
  cond (decide (a0_d.2.2 ≥ (1 : Int))) (
  (civil_Days a0_d.1 a0_d.2.1).bind fun r23 =>
  some (decide (a0_d.2.2 ≤ r23))) (
  some false)) (
  some false)) (
  some false)

def civil_floor (a0_a : Int) (a1_b : Int) : Option (Int) :=
  cond (!(a1_b == 0)) (
  let t8 : Int := (w64 (Int.tdiv a0_a a1_b))
  cond (!(a1_b == 0)) (
  let t11 : Int := (Int.tmod a0_a a1_b)
  cond (decide (t11 < (0 : Int))) (
  let t14 : Int := (w64 (t8 - (1 : Int)))
  some t14) (
  some t8)) none) none

def civil_count (a0_year : Int) : Option (Int) :=
  let t5 : Int := (w64 (a0_year - (1 : Int)))
  let t7 : Int := (w64 (a0_year - (1970 : Int)))
  let t8 : Int := (w64 ((365 : Int) * t7))
  (civil_floor t5 (4 : Int)).bind fun r10 =>
  let t11 : Int := (w64 (t8 + r10))
  (civil_floor t5 (100 : Int)).bind fun r13 =>
  let t14 : Int := (w64 (t11 - r13))
  (civil_floor t5 (400 : Int)).bind fun r16 =>
  let t17 : Int := (w64 (t14 + r16))
  let t18 : Int := (w64 (t17 - (477 : Int)))
  some t18

def civil_number_l0_step (s3 : Int) (s4 : Int) (b1 : Int) (b1_1 : Int) (b1_2 : Int) : Option ((Int × Int × Int × Int × Int) ⊕ (Int)) :=
  cond (decide (s4 < b1_1)) (
  (civil_Days b1 s4).bind fun r22_1 =>
  let t23_1 : Int := (w64 (s3 + r22_1))
  let t17_1 : Int := (w64 (s4 + (1 : Int)))
  some (.inl (t23_1, t17_1, b1, b1_1, b1_2))) (
  some (.inr s3))

def civil_number_l0 (s3 : Int) (s4 : Int) (b1 : Int) (b1_1 : Int) (b1_2 : Int) : Option (Int) :=
  loopOpt (fun h : Int × Int × Int × Int × Int => civil_number_l0_step h.1 h.2.1 h.2.2.1 h.2.2.2.1 h.2.2.2.2) (s3, s4, b1, b1_1, b1_2)

theorem civil_number_l0_eq (s3 : Int) (s4 : Int) (b1 : Int) (b1_1 : Int) (b1_2 : Int) : civil_number_l0 s3 s4 b1 b1_1 b1_2 = lpK (civil_number_l0_step s3 s4 b1 b1_1 b1_2) (fun h => civil_number_l0 h.1 h.2.1 h.2.2.1 h.2.2.2.1 h.2.2.2.2) := loopOpt_eq _ _

def civil_number (a0_d : (Int × (Int × Int))) : Option (Int) :=
  (civil_count a0_d.1).bind fun r7 =>
  let t10 : Int := (w64 (r7 + a0_d.2.2))
  let t11 : Int := (w64 (t10 - (1 : Int)))
  (civil_number_l0 t11 (1 : Int) a0_d.1 a0_d.2.1 a0_d.2.2).bind fun q0 =>
  some q0

def civil_Weekday (a0_day : Int) : Option (Int) :=
  let t4 : Int := (Int.tmod a0_day (7 : Int))
  let t5 : Int := (w64 (t4 + (10 : Int)))
  let t6 : Int := (Int.tmod t5 (7 : Int))
  some t6

def civil_Nth (a0_year : Int) (a1_month : Int) (a2_week : Int) (a3_weekday : Int) : Option (Int × Int) :=
  (civil_Valid (a0_year, (a1_month, (1 : Int)))).bind fun r17 =>
  let t26 : Bool := (cond (cond (!r17) true (decide (a2_week < (1 : Int)))) true (decide (a2_week > (5 : Int))))
  let t34 : Bool := (cond (cond t26 true (decide (a3_weekday < (0 : Int)))) true (decide (a3_weekday > (6 : Int))))
  cond t34 (
  some ((0 : Int), (1 : Int))) (
  (civil_number (a0_year, (a1_month, (1 : Int)))).bind fun r36 =>
  (civil_Weekday r36).bind fun r40 =>
  let t41 : Int := (w64 (a3_weekday - r40))
  let t42 : Int := (w64 (t41 + (7 : Int)))
  let t43 : Int := (Int.tmod t42 (7 : Int))
  let t44 : Int := (w64 (r36 + t43))
  let t46 : Int := (w64 (a2_week - (1 : Int)))
  let t47 : Int := (w64 ((7 : Int) * t46))
  let t48 : Int := (w64 (t44 + t47))
  (civil_Days a0_year a1_month).bind fun r53 =>
  let t54 : Int := (w64 (r36 + r53))
  cond (decide (t48 ≥ t54)) (
  let t57 : Int := (w64 (t48 - (7 : Int)))
  some (t57, (0 : Int))) (
  some (t48, (0 : Int))))

def zone_occurrences_c1 (a0_a : (Int × Int)) (a1_b : (Int × Int)) : Option (Int) :=
  let t9 : Int := (w64 (a0_a.1 - a1_b.1))
  some t9

def slices_insertionSortCmpFunc_zone_occurrence_l2_step (s1 : Int) (s2 : Int) (s8 : Int) (s9 : Int) (b0 : (List (Int × Int))) : Option ((Int × Int × Int × Int × (List (Int × Int))) ⊕ ((Int × Int × Int × (List (Int × Int))))) :=
  cond (decide (s9 > s1)) (
  cond (inR s9 (List.length b0)) (
  let t26_2 : Int := (List.getD b0 (Int.toNat s9) ((0 : Int), (0 : Int))).1
  let t26_3 : Int := (List.getD b0 (Int.toNat s9) ((0 : Int), (0 : Int))).2
  let t29_1 : Int := (w64 (s9 - (1 : Int)))
  cond (inR t29_1 (List.length b0)) (
  let t31_2 : Int := (List.getD b0 (Int.toNat t29_1) ((0 : Int), (0 : Int))).1
  let t31_3 : Int := (List.getD b0 (Int.toNat t29_1) ((0 : Int), (0 : Int))).2
  (zone_occurrences_c1 (t26_2, t26_3) (t31_2, t31_3)).bind fun r32_1 =>
  cond (decide (r32_1 < (0 : Int))) (
  let t41_1 : Int := (w64 (s9 - (1 : Int)))
  let t44_1 : Int := (w64 (s9 - (1 : Int)))
  cond (inR t44_1 (List.length b0)) (
  let t46_2 : Int := (List.getD b0 (Int.toNat t44_1) ((0 : Int), (0 : Int))).1
  let t46_3 : Int := (List.getD b0 (Int.toNat t44_1) ((0 : Int), (0 : Int))).2
  cond (inR s9 (List.length b0)) (
  let t50_2 : Int := (List.getD b0 (Int.toNat s9) ((0 : Int), (0 : Int))).1
  let t50_3 : Int := (List.getD b0 (Int.toNat s9) ((0 : Int), (0 : Int))).2
  cond (inR s9 (List.length b0)) (
  let m15_1 : (List (Int × Int)) := (List.set b0 (Int.toNat s9) (t46_2, t46_3))
  cond (inR t41_1 (List.length m15_1)) (
  let m17_1 : (List (Int × Int)) := (List.set m15_1 (Int.toNat t41_1) (t50_2, t50_3))
  let t36_1 : Int := (w64 (s9 - (1 : Int)))
  some (.inl (s1, s2, s8, t36_1, m17_1))) none) none) none) none) (
  some (.inr (s1, s2, s8, b0)))) none) none) (
  some (.inr (s1, s2, s8, b0)))

def slices_insertionSortCmpFunc_zone_occurrence_l2 (s1 : Int) (s2 : Int) (s8 : Int) (s9 : Int) (b0 : (List (Int × Int))) : Option ((Int × Int × Int × (List (Int × Int)))) :=
  loopOpt (fun h : Int × Int × Int × Int × (List (Int × Int)) => slices_insertionSortCmpFunc_zone_occurrence_l2_step h.1 h.2.1 h.2.2.1 h.2.2.2.1 h.2.2.2.2) (s1, s2, s8, s9, b0)

theorem slices_insertionSortCmpFunc_zone_occurrence_l2_eq (s1 : Int) (s2 : Int) (s8 : Int) (s9 : Int) (b0 : (List (Int × Int))) : slices_insertionSortCmpFunc_zone_occurrence_l2 s1 s2 s8 s9 b0 = lpK (slices_insertionSortCmpFunc_zone_occurrence_l2_step s1 s2 s8 s9 b0) (fun h => slices_insertionSortCmpFunc_zone_occurrence_l2 h.1 h.2.1 h.2.2.1 h.2.2.2.1 h.2.2.2.2) := loopOpt_eq _ _

def slices_insertionSortCmpFunc_zone_occurrence_l0_step (s1 : Int) (s2 : Int) (s8 : Int) (b0 : (List (Int × Int))) : Option ((Int × Int × Int × (List (Int × Int))) ⊕ ((List (Int × Int)))) :=
  cond (decide (s8 < s2)) (
  (slices_insertionSortCmpFunc_zone_occurrence_l2 s1 s2 s8 s8 b0).bind fun q2_1 =>
  let t16_1 : Int := (w64 (q2_1.2.2.1 + (1 : Int)))
  some (.inl (q2_1.1, q2_1.2.1, t16_1, q2_1.2.2.2))) (
  some (.inr b0))

def slices_insertionSortCmpFunc_zone_occurrence_l0 (s1 : Int) (s2 : Int) (s8 : Int) (b0 : (List (Int × Int))) : Option ((List (Int × Int))) :=
  loopOpt (fun h : Int × Int × Int × (List (Int × Int)) => slices_insertionSortCmpFunc_zone_occurrence_l0_step h.1 h.2.1 h.2.2.1 h.2.2.2) (s1, s2, s8, b0)

theorem slices_insertionSortCmpFunc_zone_occurrence_l0_eq (s1 : Int) (s2 : Int) (s8 : Int) (b0 : (List (Int × Int))) : slices_insertionSortCmpFunc_zone_occurrence_l0 s1 s2 s8 b0 = lpK (slices_insertionSortCmpFunc_zone_occurrence_l0_step s1 s2 s8 b0) (fun h => slices_insertionSortCmpFunc_zone_occurrence_l0 h.1 h.2.1 h.2.2.1 h.2.2.2) := loopOpt_eq _ _

def slices_insertionSortCmpFunc_zone_occurrence (a0_data : (List (Int × Int))) (a1_a : Int) (a2_b : Int) : Option ((List (Int × Int))) :=
  let t11 : Int := (w64 (a1_a + (1 : Int)))
  (slices_insertionSortCmpFunc_zone_occurrence_l0 a1_a a2_b t11 a0_data).bind fun q0 =>
  some q0

def slices_swapRangeCmpFunc_zone_occurrence_l0_step (s1 : Int) (s2 : Int) (s3 : Int) (s10 : Int) (b0 : (List (Int × Int))) : Option ((Int × Int × Int × Int × (List (Int × Int))) ⊕ ((List (Int × Int)))) :=
  cond (decide (s10 < s3)) (
  let t19_1 : Int := (w64 (s1 + s10))
  let t23_1 : Int := (w64 (s2 + s10))
  let t27_1 : Int := (w64 (s2 + s10))
  cond (inR t27_1 (List.length b0)) (
  let t29_2 : Int := (List.getD b0 (Int.toNat t27_1) ((0 : Int), (0 : Int))).1
  let t29_3 : Int := (List.getD b0 (Int.toNat t27_1) ((0 : Int), (0 : Int))).2
  let t33_1 : Int := (w64 (s1 + s10))
  cond (inR t33_1 (List.length b0)) (
  let t35_2 : Int := (List.getD b0 (Int.toNat t33_1) ((0 : Int), (0 : Int))).1
  let t35_3 : Int := (List.getD b0 (Int.toNat t33_1) ((0 : Int), (0 : Int))).2
  cond (inR t19_1 (List.length b0)) (
  let m21_1 : (List (Int × Int)) := (List.set b0 (Int.toNat t19_1) (t29_2, t29_3))
  cond (inR t23_1 (List.length m21_1)) (
  let m23_1 : (List (Int × Int)) := (List.set m21_1 (Int.toNat t23_1) (t35_2, t35_3))
  let t15_1 : Int := (w64 (s10 + (1 : Int)))
  some (.inl (s1, s2, s3, t15_1, m23_1))) none) none) none) none) (
  some (.inr b0))

def slices_swapRangeCmpFunc_zone_occurrence_l0 (s1 : Int) (s2 : Int) (s3 : Int) (s10 : Int) (b0 : (List (Int × Int))) : Option ((List (Int × Int))) :=
  loopOpt (fun h : Int × Int × Int × Int × (List (Int × Int)) => slices_swapRangeCmpFunc_zone_occurrence_l0_step h.1 h.2.1 h.2.2.1 h.2.2.2.1 h.2.2.2.2) (s1, s2, s3, s10, b0)

theorem slices_swapRangeCmpFunc_zone_occurrence_l0_eq (s1 : Int) (s2 : Int) (s3 : Int) (s10 : Int) (b0 : (List (Int × Int))) : slices_swapRangeCmpFunc_zone_occurrence_l0 s1 s2 s3 s10 b0 = lpK (slices_swapRangeCmpFunc_zone_occurrence_l0_step s1 s2 s3 s10 b0) (fun h => slices_swapRangeCmpFunc_zone_occurrence_l0 h.1 h.2.1 h.2.2.1 h.2.2.2.1 h.2.2.2.2) := loopOpt_eq _ _

def slices_swapRangeCmpFunc_zone_occurrence (a0_data : (List (Int × Int))) (a1_a : Int) (a2_b : Int) (a3_n : Int) : Option ((List (Int × Int))) :=
  (slices_swapRangeCmpFunc_zone_occurrence_l0 a1_a a2_b a3_n (0 : Int) a0_data).bind fun q0 =>
  some q0

def slices_rotateCmpFunc_zone_occurrence_l0_step (s2 : Int) (s10 : Int) (s11 : Int) (b0 : (List (Int × Int))) : Option ((Int × Int × Int × (List (Int × Int))) ⊕ ((Int × Int × (List (Int × Int))))) :=
  cond (s10 != s11) (
  cond (decide (s10 > s11)) (
  let t27_1 : Int := (w64 (s2 - s10))
  (slices_swapRangeCmpFunc_zone_occurrence b0 t27_1 s2 s11).bind fun r31_1 =>
  let t34_1 : Int := (w64 (s10 - s11))
  some (.inl (s2, t34_1, s11, r31_1))) (
  let t38_1 : Int := (w64 (s2 - s10))
  let t41_1 : Int := (w64 (s2 + s11))
  let t43_1 : Int := (w64 (t41_1 - s10))
  (slices_swapRangeCmpFunc_zone_occurrence b0 t38_1 t43_1 s10).bind fun r46_1 =>
  let t49_1 : Int := (w64 (s11 - s10))
  some (.inl (s2, s10, t49_1, r46_1)))) (
  some (.inr (s2, s10, b0)))

def slices_rotateCmpFunc_zone_occurrence_l0 (s2 : Int) (s10 : Int) (s11 : Int) (b0 : (List (Int × Int))) : Option ((Int × Int × (List (Int × Int)))) :=
  loopOpt (fun h : Int × Int × Int × (List (Int × Int)) => slices_rotateCmpFunc_zone_occurrence_l0_step h.1 h.2.1 h.2.2.1 h.2.2.2) (s2, s10, s11, b0)

theorem slices_rotateCmpFunc_zone_occurrence_l0_eq (s2 : Int) (s10 : Int) (s11 : Int) (b0 : (List (Int × Int))) : slices_rotateCmpFunc_zone_occurrence_l0 s2 s10 s11 b0 = lpK (slices_rotateCmpFunc_zone_occurrence_l0_step s2 s10 s11 b0) (fun h => slices_rotateCmpFunc_zone_occurrence_l0 h.1 h.2.1 h.2.2.1 h.2.2.2) := loopOpt_eq _ _

def slices_rotateCmpFunc_zone_occurrence (a0_data : (List (Int × Int))) (a1_a : Int) (a2_m : Int) (a3_b : Int) : Option ((List (Int × Int))) :=
  let t14 : Int := (w64 (a2_m - a1_a))
  let t17 : Int := (w64 (a3_b - a2_m))
  (slices_rotateCmpFunc_zone_occurrence_l0 a2_m t14 t17 a0_data).bind fun q0 =>
  let t53 : Int := (w64 (q0.1 - q0.2.1))
  (slices_swapRangeCmpFunc_zone_occurrence q0.2.2 t53 q0.1 q0.2.1).bind fun r57 =>
  some r57

def slices_symMergeCmpFunc_zone_occurrence_l0_step (rec : (List (Int × Int)) → Int → Int → Int → Option ((List (Int × Int)))) (s1 : Int) (s10 : Int) (s11 : Int) (b0 : (List (Int × Int))) : Option ((Int × Int × Int × (List (Int × Int))) ⊕ ((Int × Int × (List (Int × Int))))) :=
  cond (decide (s10 < s11)) (
  let t36_1 : Int := (w64 (s10 + s11))
  let t37_1 : Int := (IntKind.wrap .u64 t36_1)
  let t38_1 : Int := (Int.fdiv t37_1 (2 : Int))
  let t39 : Int := (w64 t38_1)
  cond (inR t39 (List.length b0)) (
  let t44_2 : Int := (List.getD b0 (Int.toNat t39) ((0 : Int), (0 : Int))).1
  let t44_3 : Int := (List.getD b0 (Int.toNat t39) ((0 : Int), (0 : Int))).2
  cond (inR s1 (List.length b0)) (
  let t48_2 : Int := (List.getD b0 (Int.toNat s1) ((0 : Int), (0 : Int))).1
  let t48_3 : Int := (List.getD b0 (Int.toNat s1) ((0 : Int), (0 : Int))).2
  (zone_occurrences_c1 (t44_2, t44_3) (t48_2, t48_3)).bind fun r49_1 =>
  cond (decide (r49_1 < (0 : Int))) (
  let t52_1 : Int := (w64 (t39 + (1 : Int)))
  some (.inl (s1, t52_1, s11, b0))) (
  some (.inl (s1, s10, t39, b0)))) none) none) (
  some (.inr (s1, s10, b0)))

def slices_symMergeCmpFunc_zone_occurrence_l0 (rec : (List (Int × Int)) → Int → Int → Int → Option ((List (Int × Int)))) (s1 : Int) (s10 : Int) (s11 : Int) (b0 : (List (Int × Int))) : Option ((Int × Int × (List (Int × Int)))) :=
  loopOpt (fun h : Int × Int × Int × (List (Int × Int)) => slices_symMergeCmpFunc_zone_occurrence_l0_step rec h.1 h.2.1 h.2.2.1 h.2.2.2) (s1, s10, s11, b0)

theorem slices_symMergeCmpFunc_zone_occurrence_l0_eq (rec : (List (Int × Int)) → Int → Int → Int → Option ((List (Int × Int)))) (s1 : Int) (s10 : Int) (s11 : Int) (b0 : (List (Int × Int))) : slices_symMergeCmpFunc_zone_occurrence_l0 rec s1 s10 s11 b0 = lpK (slices_symMergeCmpFunc_zone_occurrence_l0_step rec s1 s10 s11 b0) (fun h => slices_symMergeCmpFunc_zone_occurrence_l0 rec h.1 h.2.1 h.2.2.1 h.2.2.2) := loopOpt_eq _ _

def slices_symMergeCmpFunc_zone_occurrence_l2_step (rec : (List (Int × Int)) → Int → Int → Int → Option ((List (Int × Int)))) (s10 : Int) (s13 : Int) (b0 : (List (Int × Int))) : Option ((Int × Int × (List (Int × Int))) ⊕ ((List (Int × Int)))) :=
  let t57_1 : Int := (w64 (s10 - (1 : Int)))
  cond (decide (s13 < t57_1)) (
  let t65_1 : Int := (w64 (s13 + (1 : Int)))
  let t68_1 : Int := (w64 (s13 + (1 : Int)))
  cond (inR t68_1 (List.length b0)) (
  let t70_2 : Int := (List.getD b0 (Int.toNat t68_1) ((0 : Int), (0 : Int))).1
  let t70_3 : Int := (List.getD b0 (Int.toNat t68_1) ((0 : Int), (0 : Int))).2
  cond (inR s13 (List.length b0)) (
  let t74_2 : Int := (List.getD b0 (Int.toNat s13) ((0 : Int), (0 : Int))).1
  let t74_3 : Int := (List.getD b0 (Int.toNat s13) ((0 : Int), (0 : Int))).2
  cond (inR s13 (List.length b0)) (
  let m15_1 : (List (Int × Int)) := (List.set b0 (Int.toNat s13) (t70_2, t70_3))
  cond (inR t65_1 (List.length m15_1)) (
  let m17_1 : (List (Int × Int)) := (List.set m15_1 (Int.toNat t65_1) (t74_2, t74_3))
  let t60_1 : Int := (w64 (s13 + (1 : Int)))
  some (.inl (s10, t60_1, m17_1))) none) none) none) none) (
  some (.inr b0))

def slices_symMergeCmpFunc_zone_occurrence_l2 (rec : (List (Int × Int)) → Int → Int → Int → Option ((List (Int × Int)))) (s10 : Int) (s13 : Int) (b0 : (List (Int × Int))) : Option ((List (Int × Int))) :=
  loopOpt (fun h : Int × Int × (List (Int × Int)) => slices_symMergeCmpFunc_zone_occurrence_l2_step rec h.1 h.2.1 h.2.2) (s10, s13, b0)

theorem slices_symMergeCmpFunc_zone_occurrence_l2_eq (rec : (List (Int × Int)) → Int → Int → Int → Option ((List (Int × Int)))) (s10 : Int) (s13 : Int) (b0 : (List (Int × Int))) : slices_symMergeCmpFunc_zone_occurrence_l2 rec s10 s13 b0 = lpK (slices_symMergeCmpFunc_zone_occurrence_l2_step rec s10 s13 b0) (fun h => slices_symMergeCmpFunc_zone_occurrence_l2 rec h.1 h.2.1 h.2.2) := loopOpt_eq _ _

def slices_symMergeCmpFunc_zone_occurrence_l4_step (rec : (List (Int × Int)) → Int → Int → Int → Option ((List (Int × Int)))) (s2 : Int) (s14 : Int) (s15 : Int) (b0 : (List (Int × Int))) : Option ((Int × Int × Int × (List (Int × Int))) ⊕ ((Int × Int × (List (Int × Int))))) :=
  cond (decide (s14 < s15)) (
  let t88_1 : Int := (w64 (s14 + s15))
  let t89_1 : Int := (IntKind.wrap .u64 t88_1)
  let t90_1 : Int := (Int.fdiv t89_1 (2 : Int))
  let t91 : Int := (w64 t90_1)
  cond (inR s2 (List.length b0)) (
  let t96_2 : Int := (List.getD b0 (Int.toNat s2) ((0 : Int), (0 : Int))).1
  let t96_3 : Int := (List.getD b0 (Int.toNat s2) ((0 : Int), (0 : Int))).2
  cond (inR t91 (List.length b0)) (
  let t100_2 : Int := (List.getD b0 (Int.toNat t91) ((0 : Int), (0 : Int))).1
  let t100_3 : Int := (List.getD b0 (Int.toNat t91) ((0 : Int), (0 : Int))).2
  (zone_occurrences_c1 (t96_2, t96_3) (t100_2, t100_3)).bind fun r101_1 =>
  cond (!(decide (r101_1 < (0 : Int)))) (
  let t105_1 : Int := (w64 (t91 + (1 : Int)))
  some (.inl (s2, t105_1, s15, b0))) (
  some (.inl (s2, s14, t91, b0)))) none) none) (
  some (.inr (s2, s14, b0)))

def slices_symMergeCmpFunc_zone_occurrence_l4 (rec : (List (Int × Int)) → Int → Int → Int → Option ((List (Int × Int)))) (s2 : Int) (s14 : Int) (s15 : Int) (b0 : (List (Int × Int))) : Option ((Int × Int × (List (Int × Int)))) :=
  loopOpt (fun h : Int × Int × Int × (List (Int × Int)) => slices_symMergeCmpFunc_zone_occurrence_l4_step rec h.1 h.2.1 h.2.2.1 h.2.2.2) (s2, s14, s15, b0)

theorem slices_symMergeCmpFunc_zone_occurrence_l4_eq (rec : (List (Int × Int)) → Int → Int → Int → Option ((List (Int × Int)))) (s2 : Int) (s14 : Int) (s15 : Int) (b0 : (List (Int × Int))) : slices_symMergeCmpFunc_zone_occurrence_l4 rec s2 s14 s15 b0 = lpK (slices_symMergeCmpFunc_zone_occurrence_l4_step rec s2 s14 s15 b0) (fun h => slices_symMergeCmpFunc_zone_occurrence_l4 rec h.1 h.2.1 h.2.2.1 h.2.2.2) := loopOpt_eq _ _

def slices_symMergeCmpFunc_zone_occurrence_l6_step (rec : (List (Int × Int)) → Int → Int → Int → Option ((List (Int × Int)))) (s14 : Int) (s17 : Int) (b0 : (List (Int × Int))) : Option ((Int × Int × (List (Int × Int))) ⊕ ((List (Int × Int)))) :=
  cond (decide (s17 > s14)) (
  let t117_1 : Int := (w64 (s17 - (1 : Int)))
  let t120_1 : Int := (w64 (s17 - (1 : Int)))
  cond (inR t120_1 (List.length b0)) (
  let t122_2 : Int := (List.getD b0 (Int.toNat t120_1) ((0 : Int), (0 : Int))).1
  let t122_3 : Int := (List.getD b0 (Int.toNat t120_1) ((0 : Int), (0 : Int))).2
  cond (inR s17 (List.length b0)) (
  let t126_2 : Int := (List.getD b0 (Int.toNat s17) ((0 : Int), (0 : Int))).1
  let t126_3 : Int := (List.getD b0 (Int.toNat s17) ((0 : Int), (0 : Int))).2
  cond (inR s17 (List.length b0)) (
  let m15_3 : (List (Int × Int)) := (List.set b0 (Int.toNat s17) (t122_2, t122_3))
  cond (inR t117_1 (List.length m15_3)) (
  let m17_3 : (List (Int × Int)) := (List.set m15_3 (Int.toNat t117_1) (t126_2, t126_3))
  let t112_1 : Int := (w64 (s17 - (1 : Int)))
  some (.inl (s14, t112_1, m17_3))) none) none) none) none) (
  some (.inr b0))

def slices_symMergeCmpFunc_zone_occurrence_l6 (rec : (List (Int × Int)) → Int → Int → Int → Option ((List (Int × Int)))) (s14 : Int) (s17 : Int) (b0 : (List (Int × Int))) : Option ((List (Int × Int))) :=
  loopOpt (fun h : Int × Int × (List (Int × Int)) => slices_symMergeCmpFunc_zone_occurrence_l6_step rec h.1 h.2.1 h.2.2) (s14, s17, b0)

theorem slices_symMergeCmpFunc_zone_occurrence_l6_eq (rec : (List (Int × Int)) → Int → Int → Int → Option ((List (Int × Int)))) (s14 : Int) (s17 : Int) (b0 : (List (Int × Int))) : slices_symMergeCmpFunc_zone_occurrence_l6 rec s14 s17 b0 = lpK (slices_symMergeCmpFunc_zone_occurrence_l6_step rec s14 s17 b0) (fun h => slices_symMergeCmpFunc_zone_occurrence_l6 rec h.1 h.2.1 h.2.2) := loopOpt_eq _ _

def slices_symMergeCmpFunc_zone_occurrence_l8_step (rec : (List (Int × Int)) → Int → Int → Int → Option ((List (Int × Int)))) (s1 : Int) (s2 : Int) (s3 : Int) (s18 : Int) (s19 : Int) (s20 : Int) (s21 : Int) (s22 : Int) (b0 : (List (Int × Int))) : Option ((Int × Int × Int × Int × Int × Int × Int × Int × (List (Int × Int))) ⊕ ((Int × Int × Int × Int × Int × Int × (List (Int × Int))))) :=
  cond (decide (s20 < s21)) (
  let t154_1 : Int := (w64 (s20 + s21))
  let t155_1 : Int := (IntKind.wrap .u64 t154_1)
  let t156_1 : Int := (Int.fdiv t155_1 (2 : Int))
  let t157 : Int := (w64 t156_1)
  let t162_1 : Int := (w64 (s22 - t157))
  cond (inR t162_1 (List.length b0)) (
  let t164_2 : Int := (List.getD b0 (Int.toNat t162_1) ((0 : Int), (0 : Int))).1
  let t164_3 : Int := (List.getD b0 (Int.toNat t162_1) ((0 : Int), (0 : Int))).2
  cond (inR t157 (List.length b0)) (
  let t168_2 : Int := (List.getD b0 (Int.toNat t157) ((0 : Int), (0 : Int))).1
  let t168_3 : Int := (List.getD b0 (Int.toNat t157) ((0 : Int), (0 : Int))).2
  (zone_occurrences_c1 (t164_2, t164_3) (t168_2, t168_3)).bind fun r169_1 =>
  cond (!(decide (r169_1 < (0 : Int)))) (
  let t173_1 : Int := (w64 (t157 + (1 : Int)))
  some (.inl (s1, s2, s3, s18, s19, t173_1, s21, s22, b0))) (
  some (.inl (s1, s2, s3, s18, s19, s20, t157, s22, b0)))) none) none) (
  some (.inr (s1, s2, s3, s18, s19, s20, b0)))

def slices_symMergeCmpFunc_zone_occurrence_l8 (rec : (List (Int × Int)) → Int → Int → Int → Option ((List (Int × Int)))) (s1 : Int) (s2 : Int) (s3 : Int) (s18 : Int) (s19 : Int) (s20 : Int) (s21 : Int) (s22 : Int) (b0 : (List (Int × Int))) : Option ((Int × Int × Int × Int × Int × Int × (List (Int × Int)))) :=
  loopOpt (fun h : Int × Int × Int × Int × Int × Int × Int × Int × (List (Int × Int)) => slices_symMergeCmpFunc_zone_occurrence_l8_step rec h.1 h.2.1 h.2.2.1 h.2.2.2.1 h.2.2.2.2.1 h.2.2.2.2.2.1 h.2.2.2.2.2.2.1 h.2.2.2.2.2.2.2.1 h.2.2.2.2.2.2.2.2) (s1, s2, s3, s18, s19, s20, s21, s22, b0)

theorem slices_symMergeCmpFunc_zone_occurrence_l8_eq (rec : (List (Int × Int)) → Int → Int → Int → Option ((List (Int × Int)))) (s1 : Int) (s2 : Int) (s3 : Int) (s18 : Int) (s19 : Int) (s20 : Int) (s21 : Int) (s22 : Int) (b0 : (List (Int × Int))) : slices_symMergeCmpFunc_zone_occurrence_l8 rec s1 s2 s3 s18 s19 s20 s21 s22 b0 = lpK (slices_symMergeCmpFunc_zone_occurrence_l8_step rec s1 s2 s3 s18 s19 s20 s21 s22 b0) (fun h => slices_symMergeCmpFunc_zone_occurrence_l8 rec h.1 h.2.1 h.2.2.1 h.2.2.2.1 h.2.2.2.2.1 h.2.2.2.2.2.1 h.2.2.2.2.2.2.1 h.2.2.2.2.2.2.2.1 h.2.2.2.2.2.2.2.2) := loopOpt_eq _ _

def slices_symMergeCmpFunc_zone_occurrence_body (rec : (List (Int × Int)) → Int → Int → Int → Option ((List (Int × Int)))) (a0_data : (List (Int × Int))) (a1_a : Int) (a2_m : Int) (a3_b : Int) : Option ((List (Int × Int))) :=
  let t27 : Int := (w64 (a2_m - a1_a))
  cond (t27 == (1 : Int)) (
  (slices_symMergeCmpFunc_zone_occurrence_l0 rec a1_a a2_m a3_b a0_data).bind fun q0 =>
  (slices_symMergeCmpFunc_zone_occurrence_l2 rec q0.2.1 q0.1 q0.2.2).bind fun q2 =>
  some q2) (
  let t79 : Int := (w64 (a3_b - a2_m))
  cond (t79 == (1 : Int)) (
  (slices_symMergeCmpFunc_zone_occurrence_l4 rec a2_m a1_a a2_m a0_data).bind fun q4 =>
  (slices_symMergeCmpFunc_zone_occurrence_l6 rec q4.2.1 q4.1 q4.2.2).bind fun q6 =>
  some q6) (
  let t131 : Int := (w64 (a1_a + a3_b))
  let t132 : Int := (IntKind.wrap .u64 t131)
  let t133 : Int := (Int.fdiv t132 (2 : Int))
  let t137 : Int := (w64 ((w64 t133) + a2_m))
  cond (decide (a2_m > (w64 t133))) (
  let t143 : Int := (w64 (t137 - a3_b))
  let t148 : Int := (w64 (t137 - (1 : Int)))
  (slices_symMergeCmpFunc_zone_occurrence_l8 rec a1_a a2_m a3_b (w64 t133) t137 t143 (w64 t133) t148 a0_data).bind fun q8 =>
  let t177 : Int := (w64 (q8.2.2.2.2.1 - q8.2.2.2.2.2.1))
  cond (cond (decide (q8.2.2.2.2.2.1 < q8.2.1)) (decide (q8.2.1 < t177)) false) (
  (slices_rotateCmpFunc_zone_occurrence q8.2.2.2.2.2.2 q8.2.2.2.2.2.1 q8.2.1 t177).bind fun r191 =>
  cond (cond (decide (q8.1 < q8.2.2.2.2.2.1)) (decide (q8.2.2.2.2.2.1 < q8.2.2.2.1)) false) (
  (rec r191 q8.1 q8.2.2.2.2.2.1 q8.2.2.2.1).bind fun r205 =>
  cond (cond (decide (q8.2.2.2.1 < t177)) (decide (t177 < q8.2.2.1)) false) (
  (rec r205 q8.2.2.2.1 t177 q8.2.2.1).bind fun r219 =>
  some r219) (
  some r205)) (
  cond (cond (decide (q8.2.2.2.1 < t177)) (decide (t177 < q8.2.2.1)) false) (
  (rec r191 q8.2.2.2.1 t177 q8.2.2.1).bind fun r219_1 =>
  some r219_1) (
  some r191))) (
  cond (cond (decide (q8.1 < q8.2.2.2.2.2.1)) (decide (q8.2.2.2.2.2.1 < q8.2.2.2.1)) false) (
  (rec q8.2.2.2.2.2.2 q8.1 q8.2.2.2.2.2.1 q8.2.2.2.1).bind fun r205_1 =>
  cond (cond (decide (q8.2.2.2.1 < t177)) (decide (t177 < q8.2.2.1)) false) (
  (rec r205_1 q8.2.2.2.1 t177 q8.2.2.1).bind fun r219_2 =>
  some r219_2) (
  some r205_1)) (
  cond (cond (decide (q8.2.2.2.1 < t177)) (decide (t177 < q8.2.2.1)) false) (
  (rec q8.2.2.2.2.2.2 q8.2.2.2.1 t177 q8.2.2.1).bind fun r219_3 =>
  some r219_3) (
  some q8.2.2.2.2.2.2)))) (
  let t148_1 : Int := (w64 (t137 - (1 : Int)))
  (slices_symMergeCmpFunc_zone_occurrence_l8 rec a1_a a2_m a3_b (w64 t133) t137 a1_a a2_m t148_1 a0_data).bind fun q8_1 =>
  let t177_1 : Int := (w64 (q8_1.2.2.2.2.1 - q8_1.2.2.2.2.2.1))
  cond (cond (decide (q8_1.2.2.2.2.2.1 < q8_1.2.1)) (decide (q8_1.2.1 < t177_1)) false) (
  (slices_rotateCmpFunc_zone_occurrence q8_1.2.2.2.2.2.2 q8_1.2.2.2.2.2.1 q8_1.2.1 t177_1).bind fun r191_1 =>
  let t199 : Bool := (cond (decide (q8_1.1 < q8_1.2.2.2.2.2.1)) (decide (q8_1.2.2.2.2.2.1 < q8_1.2.2.2.1)) false)
  cond t199 (
  (rec r191_1 q8_1.1 q8_1.2.2.2.2.2.1 q8_1.2.2.2.1).bind fun r205_2 =>
  cond (cond (decide (q8_1.2.2.2.1 < t177_1)) (decide (t177_1 < q8_1.2.2.1)) false) (
  (rec r205_2 q8_1.2.2.2.1 t177_1 q8_1.2.2.1).bind fun r219_4 =>
  some r219_4) (
  some r205_2)) (
  cond (cond (decide (q8_1.2.2.2.1 < t177_1)) (decide (t177_1 < q8_1.2.2.1)) false) (
  (rec r191_1 q8_1.2.2.2.1 t177_1 q8_1.2.2.1).bind fun r219_5 =>
  some r219_5) (
  some r191_1))) (
  let t199_1 : Bool := (cond (decide (q8_1.1 < q8_1.2.2.2.2.2.1)) (decide (q8_1.2.2.2.2.2.1 < q8_1.2.2.2.1)) false)
  cond t199_1 (
  (rec q8_1.2.2.2.2.2.2 q8_1.1 q8_1.2.2.2.2.2.1 q8_1.2.2.2.1).bind fun r205_3 =>
  cond (cond (decide (q8_1.2.2.2.1 < t177_1)) (decide (t177_1 < q8_1.2.2.1)) false) (
  (rec r205_3 q8_1.2.2.2.1 t177_1 q8_1.2.2.1).bind fun r219_6 =>
  some r219_6) (
  some r205_3)) (
  cond (cond (decide (q8_1.2.2.2.1 < t177_1)) (decide (t177_1 < q8_1.2.2.1)) false) (
  (rec q8_1.2.2.2.2.2.2 q8_1.2.2.2.1 t177_1 q8_1.2.2.1).bind fun r219_7 =>
  some r219_7) (
  some q8_1.2.2.2.2.2.2))))))

def slices_symMergeCmpFunc_zone_occurrence_rec (g : ((List (Int × Int)) × Int × Int × Int) → Option ((List (Int × Int)))) (h : (List (Int × Int)) × Int × Int × Int) : Option ((List (Int × Int))) := slices_symMergeCmpFunc_zone_occurrence_body (fun v0 v1 v2 v3 => g (v0, v1, v2, v3)) h.1 h.2.1 h.2.2.1 h.2.2.2

def slices_symMergeCmpFunc_zone_occurrence (a0_data : (List (Int × Int))) (a1_a : Int) (a2_m : Int) (a3_b : Int) : Option ((List (Int × Int))) := recOpt slices_symMergeCmpFunc_zone_occurrence_rec (a0_data, a1_a, a2_m, a3_b)

def slices_stableCmpFunc_zone_occurrence_l0_step (s1 : Int) (s6 : Int) (s7 : Int) (s8 : Int) (b0 : (List (Int × Int))) : Option ((Int × Int × Int × Int × (List (Int × Int))) ⊕ ((Int × Int × Int × (List (Int × Int))))) :=
  cond (decide (s8 ≤ s1)) (
  (slices_insertionSortCmpFunc_zone_occurrence b0 s7 s8).bind fun r18_1 =>
  let t22_1 : Int := (w64 (s8 + s6))
  some (.inl (s1, s6, s8, t22_1, r18_1))) (
  some (.inr (s1, s6, s7, b0)))

def slices_stableCmpFunc_zone_occurrence_l0 (s1 : Int) (s6 : Int) (s7 : Int) (s8 : Int) (b0 : (List (Int × Int))) : Option ((Int × Int × Int × (List (Int × Int)))) :=
  loopOpt (fun h : Int × Int × Int × Int × (List (Int × Int)) => slices_stableCmpFunc_zone_occurrence_l0_step h.1 h.2.1 h.2.2.1 h.2.2.2.1 h.2.2.2.2) (s1, s6, s7, s8, b0)

theorem slices_stableCmpFunc_zone_occurrence_l0_eq (s1 : Int) (s6 : Int) (s7 : Int) (s8 : Int) (b0 : (List (Int × Int))) : slices_stableCmpFunc_zone_occurrence_l0 s1 s6 s7 s8 b0 = lpK (slices_stableCmpFunc_zone_occurrence_l0_step s1 s6 s7 s8 b0) (fun h => slices_stableCmpFunc_zone_occurrence_l0 h.1 h.2.1 h.2.2.1 h.2.2.2.1 h.2.2.2.2) := loopOpt_eq _ _

def slices_stableCmpFunc_zone_occurrence_l4_step (s1 : Int) (s6 : Int) (s7 : Int) (s8 : Int) (b0 : (List (Int × Int))) : Option ((Int × Int × Int × Int × (List (Int × Int))) ⊕ ((Int × Int × Int × (List (Int × Int))))) :=
  cond (decide (s8 ≤ s1)) (
  let t40_1 : Int := (w64 (s7 + s6))
  (slices_symMergeCmpFunc_zone_occurrence b0 s7 t40_1 s8).bind fun r43_1 =>
  let t47_1 : Int := (w64 ((2 : Int) * s6))
  let t48_1 : Int := (w64 (s8 + t47_1))
  some (.inl (s1, s6, s8, t48_1, r43_1))) (
  some (.inr (s1, s6, s7, b0)))

def slices_stableCmpFunc_zone_occurrence_l4 (s1 : Int) (s6 : Int) (s7 : Int) (s8 : Int) (b0 : (List (Int × Int))) : Option ((Int × Int × Int × (List (Int × Int)))) :=
  loopOpt (fun h : Int × Int × Int × Int × (List (Int × Int)) => slices_stableCmpFunc_zone_occurrence_l4_step h.1 h.2.1 h.2.2.1 h.2.2.2.1 h.2.2.2.2) (s1, s6, s7, s8, b0)

theorem slices_stableCmpFunc_zone_occurrence_l4_eq (s1 : Int) (s6 : Int) (s7 : Int) (s8 : Int) (b0 : (List (Int × Int))) : slices_stableCmpFunc_zone_occurrence_l4 s1 s6 s7 s8 b0 = lpK (slices_stableCmpFunc_zone_occurrence_l4_step s1 s6 s7 s8 b0) (fun h => slices_stableCmpFunc_zone_occurrence_l4 h.1 h.2.1 h.2.2.1 h.2.2.2.1 h.2.2.2.2) := loopOpt_eq _ _

def slices_stableCmpFunc_zone_occurrence_l2_step (s1 : Int) (s6 : Int) (b0 : (List (Int × Int))) : Option ((Int × Int × (List (Int × Int))) ⊕ ((List (Int × Int)))) :=
  cond (decide (s6 < s1)) (
  let t32_1 : Int := (w64 ((2 : Int) * s6))
  (slices_stableCmpFunc_zone_occurrence_l4 s1 s6 (0 : Int) t32_1 b0).bind fun q4_1 =>
  let t51_1 : Int := (w64 (q4_1.2.2.1 + q4_1.2.1))
  cond (decide (t51_1 < q4_1.1)) (
  (slices_symMergeCmpFunc_zone_occurrence q4_1.2.2.2 q4_1.2.2.1 t51_1 q4_1.1).bind fun r60_1 =>
  let t62_2 : Int := (w64 (q4_1.2.1 * (2 : Int)))
  some (.inl (q4_1.1, t62_2, r60_1))) (
  let t62_3 : Int := (w64 (q4_1.2.1 * (2 : Int)))
  some (.inl (q4_1.1, t62_3, q4_1.2.2.2)))) (
  some (.inr b0))

def slices_stableCmpFunc_zone_occurrence_l2 (s1 : Int) (s6 : Int) (b0 : (List (Int × Int))) : Option ((List (Int × Int))) :=
  loopOpt (fun h : Int × Int × (List (Int × Int)) => slices_stableCmpFunc_zone_occurrence_l2_step h.1 h.2.1 h.2.2) (s1, s6, b0)

theorem slices_stableCmpFunc_zone_occurrence_l2_eq (s1 : Int) (s6 : Int) (b0 : (List (Int × Int))) : slices_stableCmpFunc_zone_occurrence_l2 s1 s6 b0 = lpK (slices_stableCmpFunc_zone_occurrence_l2_step s1 s6 b0) (fun h => slices_stableCmpFunc_zone_occurrence_l2 h.1 h.2.1 h.2.2) := loopOpt_eq _ _

def slices_stableCmpFunc_zone_occurrence (a0_data : (List (Int × Int))) (a1_n : Int) : Option ((List (Int × Int))) :=
  (slices_stableCmpFunc_zone_occurrence_l0 a1_n (20 : Int) (0 : Int) (20 : Int) a0_data).bind fun q0 =>
  (slices_insertionSortCmpFunc_zone_occurrence q0.2.2.2 q0.2.2.1 q0.1).bind fun r27 =>
  (slices_stableCmpFunc_zone_occurrence_l2 q0.1 q0.2.1 r27).bind fun q2 =>
  some q2

def slices_SortStableFunc_zone_occurrence_zone_occurrence (a0_x : (List (Int × Int))) : Option ((List (Int × Int))) :=
  let t6 : Int := (Int.ofNat (List.length a0_x))
  (slices_stableCmpFunc_zone_occurrence a0_x t6).bind fun r8 =>
  some r8

def zone_occurrences_l0_step (s4 : Int) (s23 : (List (Int × (Int × (Int × (Int × (Int × (Int × Int)))))))) (s24 : Int) (s25 : Int) (b1 : ByteArray) (b1_1 : Int) (b1_2 : (List (Int × (Int × (Int × (Int × (Int × (Int × Int)))))))) : Option ((Int × (List (Int × (Int × (Int × (Int × (Int × (Int × Int))))))) × Int × Int × ByteArray × Int × (List (Int × (Int × (Int × (Int × (Int × (Int × Int)))))))) ⊕ (Int ⊕ (Int × ByteArray × Int × (List (Int × (Int × (Int × (Int × (Int × (Int × Int)))))))))) :=
  cond (decide (s25 < s24)) (
  cond (inR s25 (List.length s23)) (
  let t27_1 : (Int × (Int × (Int × (Int × (Int × (Int × Int)))))) := (List.getD s23 (Int.toNat s25) ((0 : Int), ((0 : Int), ((0 : Int), ((0 : Int), ((0 : Int), ((0 : Int), (0 : Int))))))))
  (zone_rule (t27_1.1, (t27_1.2.1, (t27_1.2.2.1, (t27_1.2.2.2.1, (t27_1.2.2.2.2.1, (t27_1.2.2.2.2.2.1, t27_1.2.2.2.2.2.2))))))).bind fun r30_1 =>
  cond (r30_1 != (0 : Int)) (
  some (.inr (.inl r30_1))) (
  let t39_1 : Int := (w64 (t27_1.2.1 - t27_1.1))
  let t40_1 : Int := (w64 (t39_1 + (1 : Int)))
  let t41_1 : Int := (w64 (s4 + t40_1))
  let t42_1 : Int := (w64 (s25 + (1 : Int)))
  some (.inl (t41_1, s23, s24, t42_1, b1, b1_1, b1_2)))) none) (
  some (.inr (.inr (s4, b1, b1_1, b1_2))))

def zone_occurrences_l0 (s4 : Int) (s23 : (List (Int × (Int × (Int × (Int × (Int × (Int × Int)))))))) (s24 : Int) (s25 : Int) (b1 : ByteArray) (b1_1 : Int) (b1_2 : (List (Int × (Int × (Int × (Int × (Int × (Int × Int)))))))) : Option (Int ⊕ (Int × ByteArray × Int × (List (Int × (Int × (Int × (Int × (Int × (Int × Int))))))))) :=
  loopOpt (fun h : Int × (List (Int × (Int × (Int × (Int × (Int × (Int × Int))))))) × Int × Int × ByteArray × Int × (List (Int × (Int × (Int × (Int × (Int × (Int × Int))))))) => zone_occurrences_l0_step h.1 h.2.1 h.2.2.1 h.2.2.2.1 h.2.2.2.2.1 h.2.2.2.2.2.1 h.2.2.2.2.2.2) (s4, s23, s24, s25, b1, b1_1, b1_2)

theorem zone_occurrences_l0_eq (s4 : Int) (s23 : (List (Int × (Int × (Int × (Int × (Int × (Int × Int)))))))) (s24 : Int) (s25 : Int) (b1 : ByteArray) (b1_1 : Int) (b1_2 : (List (Int × (Int × (Int × (Int × (Int × (Int × Int)))))))) : zone_occurrences_l0 s4 s23 s24 s25 b1 b1_1 b1_2 = lpK (zone_occurrences_l0_step s4 s23 s24 s25 b1 b1_1 b1_2) (fun h => zone_occurrences_l0 h.1 h.2.1 h.2.2.1 h.2.2.2.1 h.2.2.2.2.1 h.2.2.2.2.2.1 h.2.2.2.2.2.2) := loopOpt_eq _ _

def zone_occurrences_l4_step (s11 : Int) (s46 : (List (Int × (Int × (Int × (Int × (Int × (Int × Int)))))))) (s47 : Int) (s48 : Int) (b10 : Int) (b10_1 : Int) (b10_2 : Int) (b10_3 : Int) (b10_4 : Int) (b10_5 : Int) (b10_6 : Int) (l8 : (List (Int × Int))) : Option ((Int × (List (Int × (Int × (Int × (Int × (Int × (Int × Int))))))) × Int × Int × Int × Int × Int × Int × Int × Int × Int × (List (Int × Int))) ⊕ (((List (Int × (Int × (Int × (Int × (Int × (Int × Int))))))) × Int × Int × (List (Int × Int))))) :=
  cond (decide (s11 ≤ b10_1)) (
  (civil_Nth s11 b10_2 b10_3 b10_4).bind fun r68_4 =>
  let t73_4 : Int := (w64 (r68_4.1 * (86400 : Int)))
  let t76_4 : Int := (w64 (t73_4 + b10_5))
  let t80_4 : (List (Int × Int)) := [(t76_4, b10_6)]
  cond (decide (List.length l8 + List.length t80_4 ≤ sizeMax)) (
  let t81_4 : (List (Int × Int)) := (l8 ++ t80_4)
  let t59_4 : Int := (w64 (s11 + (1 : Int)))
  some (.inl (t59_4, s46, s47, s48, b10, b10_1, b10_2, b10_3, b10_4, b10_5, b10_6, t81_4))) none) (
  some (.inr (s46, s47, s48, l8)))

def zone_occurrences_l4 (s11 : Int) (s46 : (List (Int × (Int × (Int × (Int × (Int × (Int × Int)))))))) (s47 : Int) (s48 : Int) (b10 : Int) (b10_1 : Int) (b10_2 : Int) (b10_3 : Int) (b10_4 : Int) (b10_5 : Int) (b10_6 : Int) (l8 : (List (Int × Int))) : Option (((List (Int × (Int × (Int × (Int × (Int × (Int × Int))))))) × Int × Int × (List (Int × Int)))) :=
  loopOpt (fun h : Int × (List (Int × (Int × (Int × (Int × (Int × (Int × Int))))))) × Int × Int × Int × Int × Int × Int × Int × Int × Int × (List (Int × Int)) => zone_occurrences_l4_step h.1 h.2.1 h.2.2.1 h.2.2.2.1 h.2.2.2.2.1 h.2.2.2.2.2.1 h.2.2.2.2.2.2.1 h.2.2.2.2.2.2.2.1 h.2.2.2.2.2.2.2.2.1 h.2.2.2.2.2.2.2.2.2.1 h.2.2.2.2.2.2.2.2.2.2.1 h.2.2.2.2.2.2.2.2.2.2.2) (s11, s46, s47, s48, b10, b10_1, b10_2, b10_3, b10_4, b10_5, b10_6, l8)

theorem zone_occurrences_l4_eq (s11 : Int) (s46 : (List (Int × (Int × (Int × (Int × (Int × (Int × Int)))))))) (s47 : Int) (s48 : Int) (b10 : Int) (b10_1 : Int) (b10_2 : Int) (b10_3 : Int) (b10_4 : Int) (b10_5 : Int) (b10_6 : Int) (l8 : (List (Int × Int))) : zone_occurrences_l4 s11 s46 s47 s48 b10 b10_1 b10_2 b10_3 b10_4 b10_5 b10_6 l8 = lpK (zone_occurrences_l4_step s11 s46 s47 s48 b10 b10_1 b10_2 b10_3 b10_4 b10_5 b10_6 l8) (fun h => zone_occurrences_l4 h.1 h.2.1 h.2.2.1 h.2.2.2.1 h.2.2.2.2.1 h.2.2.2.2.2.1 h.2.2.2.2.2.2.1 h.2.2.2.2.2.2.2.1 h.2.2.2.2.2.2.2.2.1 h.2.2.2.2.2.2.2.2.2.1 h.2.2.2.2.2.2.2.2.2.2.1 h.2.2.2.2.2.2.2.2.2.2.2) := loopOpt_eq _ _

def zone_occurrences_l2_step (s46 : (List (Int × (Int × (Int × (Int × (Int × (Int × Int)))))))) (s47 : Int) (s48 : Int) (l8 : (List (Int × Int))) : Option (((List (Int × (Int × (Int × (Int × (Int × (Int × Int))))))) × Int × Int × (List (Int × Int))) ⊕ ((List (Int × Int)))) :=
  cond (decide (s48 < s47)) (
  cond (inR s48 (List.length s46)) (
  let t50_2 : (Int × (Int × (Int × (Int × (Int × (Int × Int)))))) := (List.getD s46 (Int.toNat s48) ((0 : Int), ((0 : Int), ((0 : Int), ((0 : Int), ((0 : Int), ((0 : Int), (0 : Int))))))))
  (zone_occurrences_l4 t50_2.1 s46 s47 s48 t50_2.1 t50_2.2.1 t50_2.2.2.1 t50_2.2.2.2.1 t50_2.2.2.2.2.1 t50_2.2.2.2.2.2.1 t50_2.2.2.2.2.2.2 l8).bind fun q4_2 =>
  let t82_2 : Int := (w64 (q4_2.2.2.1 + (1 : Int)))
  some (.inl (q4_2.1, q4_2.2.1, t82_2, q4_2.2.2.2))) none) (
  some (.inr l8))

def zone_occurrences_l2 (s46 : (List (Int × (Int × (Int × (Int × (Int × (Int × Int)))))))) (s47 : Int) (s48 : Int) (l8 : (List (Int × Int))) : Option ((List (Int × Int))) :=
  loopOpt (fun h : (List (Int × (Int × (Int × (Int × (Int × (Int × Int))))))) × Int × Int × (List (Int × Int)) => zone_occurrences_l2_step h.1 h.2.1 h.2.2.1 h.2.2.2) (s46, s47, s48, l8)

theorem zone_occurrences_l2_eq (s46 : (List (Int × (Int × (Int × (Int × (Int × (Int × Int)))))))) (s47 : Int) (s48 : Int) (l8 : (List (Int × Int))) : zone_occurrences_l2 s46 s47 s48 l8 = lpK (zone_occurrences_l2_step s46 s47 s48 l8) (fun h => zone_occurrences_l2 h.1 h.2.1 h.2.2.1 h.2.2.2) := loopOpt_eq _ _

def zone_occurrences (a0_z : (ByteArray × (Int × (List (Int × (Int × (Int × (Int × (Int × (Int × Int)))))))))) : Option ((List (Int × Int)) × Int) :=
  (zone_in a0_z.2.1 (-64800 : Int) (64800 : Int)).bind fun r16 =>
  cond (!r16) (
  some (([] : (List (Int × Int))), (1 : Int))) (
  let t20 : Int := (Int.ofNat (List.length a0_z.2.2))
  cond (decide (t20 > (16 : Int))) (
  some (([] : (List (Int × Int))), (5 : Int))) (
  let t24 : Int := (Int.ofNat (List.length a0_z.2.2))
  (zone_occurrences_l0 (0 : Int) a0_z.2.2 t24 (0 : Int) a0_z.1 a0_z.2.1 a0_z.2.2).bind fun q0 =>
  sumC q0 (fun a =>
  some (([] : (List (Int × Int))), a)) (fun b =>
  cond (decide (b.1 > (640 : Int))) (
  some (([] : (List (Int × Int))), (5 : Int))) (
  let t47 : Int := (Int.ofNat (List.length b.2.2.2))
  (zone_occurrences_l2 b.2.2.2 t47 (0 : Int) ([] : (List (Int × Int)))).bind fun q2 =>
  (slices_SortStableFunc_zone_occurrence_zone_occurrence q2).bind fun r84 =>
  some (r84, (0 : Int))))))

def zone_Transitions_l0_step (s7 : Int) (s23 : Int) (s24 : Int) (l6 : (List (Int × Int))) (l22 : (List (Int × Int))) : Option ((Int × Int × Int × (List (Int × Int)) × (List (Int × Int))) ⊕ (Int ⊕ (List (Int × Int)))) :=
  cond (decide (s24 < s23)) (
  cond (inR s24 (List.length l22)) (
  let t27_4 : Int := (List.getD l22 (Int.toNat s24) ((0 : Int), (0 : Int))).1
  let t27_5 : Int := (List.getD l22 (Int.toNat s24) ((0 : Int), (0 : Int))).2
  cond (t27_5 == s7) (
  let t77_4 : Int := (w64 (s24 + (1 : Int)))
  some (.inl (s7, s23, t77_4, l6, l22))) (
  let t35_2 : Int := (w64 (t27_4 - s7))
  let t39_2 : Int := (w64 (t27_5 - s7))
  cond (cond (decide (t39_2 ≥ (86400 : Int))) true (decide (t39_2 ≤ (-86400 : Int)))) (
  let t53_2 : Int := (Int.ofNat (List.length l6))
  let t59_2 : Int := (Int.ofNat (List.length l6))
  let t60_4 : Int := (w64 (t59_2 - (1 : Int)))
  cond ((inR t60_4 (List.length l6)) || !((!true) && (decide (t53_2 > (0 : Int))))) (
  let t63_2 : Int := (List.getD l6 (Int.toNat t60_4) ((0 : Int), (0 : Int))).1
  let t64_2 : Int := (w64 (t63_2 + (604800 : Int)))
  some (.inr (.inl (6 : Int)))) none) (
  (zone_in t35_2 (0 : Int) (8589934592 : Int)).bind fun r48_2 =>
  let t53_3 : Int := (Int.ofNat (List.length l6))
  let t59_3 : Int := (Int.ofNat (List.length l6))
  let t60_5 : Int := (w64 (t59_3 - (1 : Int)))
  cond ((inR t60_5 (List.length l6)) || !((!(!r48_2)) && (decide (t53_3 > (0 : Int))))) (
  let t63_3 : Int := (List.getD l6 (Int.toNat t60_5) ((0 : Int), (0 : Int))).1
  let t64_3 : Int := (w64 (t63_3 + (604800 : Int)))
  cond (cond (!r48_2) true (cond (decide (t53_3 > (0 : Int))) (decide (t35_2 < t64_3)) false)) (
  some (.inr (.inl (6 : Int)))) (
  let t73_2 : (List (Int × Int)) := [(t35_2, t27_5)]
  cond (decide (List.length l6 + List.length t73_2 ≤ sizeMax)) (
  let t74_2 : (List (Int × Int)) := (l6 ++ t73_2)
  let t77_5 : Int := (w64 (s24 + (1 : Int)))
  some (.inl (t27_5, s23, t77_5, t74_2, l22))) none)) none))) none) (
  some (.inr (.inr l6)))

def zone_Transitions_l0 (s7 : Int) (s23 : Int) (s24 : Int) (l6 : (List (Int × Int))) (l22 : (List (Int × Int))) : Option (Int ⊕ (List (Int × Int))) :=
  loopOpt (fun h : Int × Int × Int × (List (Int × Int)) × (List (Int × Int)) => zone_Transitions_l0_step h.1 h.2.1 h.2.2.1 h.2.2.2.1 h.2.2.2.2) (s7, s23, s24, l6, l22)

theorem zone_Transitions_l0_eq (s7 : Int) (s23 : Int) (s24 : Int) (l6 : (List (Int × Int))) (l22 : (List (Int × Int))) : zone_Transitions_l0 s7 s23 s24 l6 l22 = lpK (zone_Transitions_l0_step s7 s23 s24 l6 l22) (fun h => zone_Transitions_l0 h.1 h.2.1 h.2.2.1 h.2.2.2.1 h.2.2.2.2) := loopOpt_eq _ _

def zone_Transitions (a0_z : (ByteArray × (Int × (List (Int × (Int × (Int × (Int × (Int × (Int × Int)))))))))) : Option ((List (Int × Int)) × Int) :=
  (zone_occurrences (a0_z.1, (a0_z.2.1, a0_z.2.2))).bind fun r14 =>
  cond (r14.2 != (0 : Int)) (
  some (([] : (List (Int × Int))), r14.2)) (
  let t23 : Int := (Int.ofNat (List.length r14.1))
  (zone_Transitions_l0 a0_z.2.1 t23 (0 : Int) ([] : (List (Int × Int))) r14.1).bind fun q0 =>
  sumC q0 (fun a =>
  some (([] : (List (Int × Int))), a)) (fun b =>
  some (b, (0 : Int))))

def zone_Of (a0_z : (ByteArray × (Int × (List (Int × (Int × (Int × (Int × (Int × (Int × Int)))))))))) : Option ((Int × (List (Int × Int))) × Int) :=
  (zone_Transitions (a0_z.1, (a0_z.2.1, a0_z.2.2))).bind fun r8 =>
  some ((a0_z.2.1, r8.1), r8.2)

def zone_civilTime (a0_z : (ByteArray × (Int × (List (Int × (Int × (Int × (Int × (Int × (Int × Int)))))))))) (a1_l : (Int × Int)) : Option ((Int × (List (Int × Int))) × Int) :=
  (zone_Of (a0_z.1, (a0_z.2.1, a0_z.2.2))).bind fun r10 =>
  cond (r10.2 != (0 : Int)) (
  some (((0 : Int), ([] : (List (Int × Int)))), (8 : Int))) (
  (zone_in a1_l.2 (0 : Int) (86399 : Int)).bind fun r20 =>
  cond (!r20) (
  some (((0 : Int), ([] : (List (Int × Int)))), (1 : Int))) (
  some ((r10.1.1, r10.1.2), (0 : Int))))

def zone_Table_after_c1 (a0_i : Int) (a1 : Int) (a1_1 : (List (Int × Int))) (a2 : Int) : Option (Bool) :=
  cond (inR a0_i (List.length a1_1)) (
  let t8 : (Int × Int) := (List.getD a1_1 (Int.toNat a0_i) ((0 : Int), (0 : Int)))
  some (decide (t8.1 > a2))) none

def sort_Search_l0_step (s1 : Int) (s1_1 : (List (Int × Int))) (s1_2 : Int) (s5 : Int) (s6 : Int) : Option ((Int × (List (Int × Int)) × Int × Int × Int) ⊕ (Int)) :=
  cond (decide (s5 < s6)) (
  let t14_1 : Int := (w64 (s5 + s6))
  let t15_1 : Int := (IntKind.wrap .u64 t14_1)
  let t16_1 : Int := (Int.fdiv t15_1 (2 : Int))
  let t17 : Int := (w64 t16_1)
  (zone_Table_after_c1 t17 s1 s1_1 s1_2).bind fun r20_1 =>
  cond (!r20_1) (
  let t23_1 : Int := (w64 (t17 + (1 : Int)))
  some (.inl (s1, s1_1, s1_2, t23_1, s6))) (
  some (.inl (s1, s1_1, s1_2, s5, t17)))) (
  some (.inr s5))

def sort_Search_l0 (s1 : Int) (s1_1 : (List (Int × Int))) (s1_2 : Int) (s5 : Int) (s6 : Int) : Option (Int) :=
  loopOpt (fun h : Int × (List (Int × Int)) × Int × Int × Int => sort_Search_l0_step h.1 h.2.1 h.2.2.1 h.2.2.2.1 h.2.2.2.2) (s1, s1_1, s1_2, s5, s6)

theorem sort_Search_l0_eq (s1 : Int) (s1_1 : (List (Int × Int))) (s1_2 : Int) (s5 : Int) (s6 : Int) : sort_Search_l0 s1 s1_1 s1_2 s5 s6 = lpK (sort_Search_l0_step s1 s1_1 s1_2 s5 s6) (fun h => sort_Search_l0 h.1 h.2.1 h.2.2.1 h.2.2.2.1 h.2.2.2.2) := loopOpt_eq _ _

def sort_Search (a0_n : Int) (a1_f : Int) (a1_f_1 : (List (Int × Int))) (a1_f_2 : Int) : Option (Int) :=
  (sort_Search_l0 a1_f a1_f_1 a1_f_2 (0 : Int) a0_n).bind fun q0 =>
  some q0

def zone_Table_after (a0_b : (Int × (List (Int × Int)))) (a1_t : Int) : Option (Int) :=
  let t7 : Int := (Int.ofNat (List.length a0_b.2))
  (sort_Search t7 a0_b.1 a0_b.2 a1_t).bind fun r9 =>
  some r9

def zone_Table_before (a0_b : (Int × (List (Int × Int)))) (a1_i : Int) : Option (Int) :=
  cond (a1_i == (0 : Int)) (
  some a0_b.1) (
  let t12 : Int := (w64 (a1_i - (1 : Int)))
  cond (inR t12 (List.length a0_b.2)) (
  let t13 : (Int × Int) := (List.getD a0_b.2 (Int.toNat t12) ((0 : Int), (0 : Int)))
  some t13.2) none)

def zone_Table_Pieces_l0_step (s1 : Int) (s2 : Int) (b3 : Int) (b3_1 : (List (Int × Int))) (l7 : (List (Int × (Int × Int)))) : Option ((Int × Int × Int × (List (Int × Int)) × (List (Int × (Int × Int)))) ⊕ ((List (Int × (Int × Int))))) :=
  cond (decide (s1 < s2)) (
  (zone_Table_after (b3, b3_1) s1).bind fun r15_2 =>
  let t20_2 : Int := (Int.ofNat (List.length b3_1))
  cond (decide (r15_2 < t20_2)) (
  cond (inR r15_2 (List.length b3_1)) (
  let t26_2 : (Int × Int) := (List.getD b3_1 (Int.toNat r15_2) ((0 : Int), (0 : Int)))
  let t29_2 : Int := (if t26_2.1 < s2 then t26_2.1 else s2 : Int)
  (zone_Table_before (b3, b3_1) r15_2).bind fun r35_4 =>
  let t37_4 : (List (Int × (Int × Int))) := [(s1, (t29_2, r35_4))]
  cond (decide (List.length l7 + List.length t37_4 ≤ sizeMax)) (
  let t38_4 : (List (Int × (Int × Int))) := (l7 ++ t37_4)
  some (.inl (t29_2, s2, b3, b3_1, t38_4))) none) none) (
  (zone_Table_before (b3, b3_1) r15_2).bind fun r35_5 =>
  let t37_5 : (List (Int × (Int × Int))) := [(s1, (s2, r35_5))]
  cond (decide (List.length l7 + List.length t37_5 ≤ sizeMax)) (
  let t38_5 : (List (Int × (Int × Int))) := (l7 ++ t37_5)
  some (.inl (s2, s2, b3, b3_1, t38_5))) none)) (
  some (.inr l7))

def zone_Table_Pieces_l0 (s1 : Int) (s2 : Int) (b3 : Int) (b3_1 : (List (Int × Int))) (l7 : (List (Int × (Int × Int)))) : Option ((List (Int × (Int × Int)))) :=
  loopOpt (fun h : Int × Int × Int × (List (Int × Int)) × (List (Int × (Int × Int))) => zone_Table_Pieces_l0_step h.1 h.2.1 h.2.2.1 h.2.2.2.1 h.2.2.2.2) (s1, s2, b3, b3_1, l7)

theorem zone_Table_Pieces_l0_eq (s1 : Int) (s2 : Int) (b3 : Int) (b3_1 : (List (Int × Int))) (l7 : (List (Int × (Int × Int)))) : zone_Table_Pieces_l0 s1 s2 b3 b3_1 l7 = lpK (zone_Table_Pieces_l0_step s1 s2 b3 b3_1 l7) (fun h => zone_Table_Pieces_l0 h.1 h.2.1 h.2.2.1 h.2.2.2.1 h.2.2.2.2) := loopOpt_eq _ _

def zone_Table_Pieces (a0_b : (Int × (List (Int × Int)))) (a1_from : Int) (a2_to : Int) : Option ((List (Int × (Int × Int)))) :=
  (zone_Table_Pieces_l0 a1_from a2_to a0_b.1 a0_b.2 ([] : (List (Int × (Int × Int))))).bind fun q0 =>
  some q0

def zone_seconds (a0_l : (Int × Int)) : Option (Int) :=
  let t5 : Int := (if (-1048576 : Int) > a0_l.1 then (-1048576 : Int) else a0_l.1 : Int)
  let t6 : Int := (if (1048576 : Int) < t5 then (1048576 : Int) else t5 : Int)
  let t7 : Int := (w64 (t6 * (86400 : Int)))
  let t10 : Int := (w64 (t7 + a0_l.2))
  some t10

def zone_Table_All_l0_step (s11 : Int) (s12 : Int) (b3 : Int) (b3_1 : Int) (l5 : (List Int)) (l10 : (List (Int × (Int × Int)))) : Option ((Int × Int × Int × Int × (List Int) × (List (Int × (Int × Int)))) ⊕ ((List Int))) :=
  cond (decide (s12 < s11)) (
  cond (inR s12 (List.length l10)) (
  let t15_6 : Int := (List.getD l10 (Int.toNat s12) ((0 : Int), ((0 : Int), (0 : Int)))).1
  let t15_7 : Int := (List.getD l10 (Int.toNat s12) ((0 : Int), ((0 : Int), (0 : Int)))).2.1
  let t15_8 : Int := (List.getD l10 (Int.toNat s12) ((0 : Int), ((0 : Int), (0 : Int)))).2.2
  (zone_seconds (b3, b3_1)).bind fun r17_2 =>
  let t20_2 : Int := (w64 (r17_2 - t15_8))
  cond (cond (decide (t15_6 ≤ t20_2)) (decide (t20_2 < t15_7)) false) (
  cond (decide (List.length l5 + List.length [t20_2] ≤ sizeMax)) (
  let t34_2 : (List Int) := (l5 ++ [t20_2])
  let t35_4 : Int := (w64 (s12 + (1 : Int)))
  some (.inl (s11, t35_4, b3, b3_1, t34_2, l10))) none) (
  let t35_5 : Int := (w64 (s12 + (1 : Int)))
  some (.inl (s11, t35_5, b3, b3_1, l5, l10)))) none) (
  some (.inr l5))

def zone_Table_All_l0 (s11 : Int) (s12 : Int) (b3 : Int) (b3_1 : Int) (l5 : (List Int)) (l10 : (List (Int × (Int × Int)))) : Option ((List Int)) :=
  loopOpt (fun h : Int × Int × Int × Int × (List Int) × (List (Int × (Int × Int))) => zone_Table_All_l0_step h.1 h.2.1 h.2.2.1 h.2.2.2.1 h.2.2.2.2.1 h.2.2.2.2.2) (s11, s12, b3, b3_1, l5, l10)

theorem zone_Table_All_l0_eq (s11 : Int) (s12 : Int) (b3 : Int) (b3_1 : Int) (l5 : (List Int)) (l10 : (List (Int × (Int × Int)))) : zone_Table_All_l0 s11 s12 b3 b3_1 l5 l10 = lpK (zone_Table_All_l0_step s11 s12 b3 b3_1 l5 l10) (fun h => zone_Table_All_l0 h.1 h.2.1 h.2.2.1 h.2.2.2.1 h.2.2.2.2.1 h.2.2.2.2.2) := loopOpt_eq _ _

def zone_Table_All (a0_b : (Int × (List (Int × Int)))) (a1_l : (Int × Int)) : Option ((List Int)) :=
  (zone_Table_Pieces (a0_b.1, a0_b.2) (0 : Int) (8589934593 : Int)).bind fun r10 =>
  let t11 : Int := (Int.ofNat (List.length r10))
  (zone_Table_All_l0 t11 (0 : Int) a1_l.1 a1_l.2 ([] : (List Int)) r10).bind fun q0 =>
  some q0

def zone_FromLocal (a0_z : (ByteArray × (Int × (List (Int × (Int × (Int × (Int × (Int × (Int × Int)))))))))) (a1_l : (Int × Int)) : Option ((List Int) × Int) :=
  (zone_civilTime (a0_z.1, (a0_z.2.1, a0_z.2.2)) (a1_l.1, a1_l.2)).bind fun r11 =>
  cond (r11.2 != (0 : Int)) (
  some (([] : (List Int)), r11.2)) (
  (zone_Table_All (r11.1.1, r11.1.2) (a1_l.1, a1_l.2)).bind fun r19 =>
  some (r19, (0 : Int)))

def zone_Table_First_l0_step (s11 : Int) (s12 : Int) (b3 : Int) (b3_1 : Int) (l10 : (List (Int × (Int × Int)))) : Option ((Int × Int × Int × Int × (List (Int × (Int × Int)))) ⊕ ((Int × Bool) ⊕ Unit)) :=
  cond (decide (s12 < s11)) (
  cond (inR s12 (List.length l10)) (
  let t15_3 : Int := (List.getD l10 (Int.toNat s12) ((0 : Int), ((0 : Int), (0 : Int)))).1
  let t15_4 : Int := (List.getD l10 (Int.toNat s12) ((0 : Int), ((0 : Int), (0 : Int)))).2.1
  let t15_5 : Int := (List.getD l10 (Int.toNat s12) ((0 : Int), ((0 : Int), (0 : Int)))).2.2
  (zone_seconds (b3, b3_1)).bind fun r19_1 =>
  let t22_1 : Int := (w64 (r19_1 - t15_5))
  let t23_1 : Int := (if t22_1 > t15_3 then t22_1 else t15_3 : Int)
  cond (decide (t23_1 < t15_4)) (
  some (.inr (.inl (t23_1, true)))) (
  let t29_1 : Int := (w64 (s12 + (1 : Int)))
  some (.inl (s11, t29_1, b3, b3_1, l10)))) none) (
  some (.inr (.inr ())))

def zone_Table_First_l0 (s11 : Int) (s12 : Int) (b3 : Int) (b3_1 : Int) (l10 : (List (Int × (Int × Int)))) : Option ((Int × Bool) ⊕ Unit) :=
  loopOpt (fun h : Int × Int × Int × Int × (List (Int × (Int × Int))) => zone_Table_First_l0_step h.1 h.2.1 h.2.2.1 h.2.2.2.1 h.2.2.2.2) (s11, s12, b3, b3_1, l10)

theorem zone_Table_First_l0_eq (s11 : Int) (s12 : Int) (b3 : Int) (b3_1 : Int) (l10 : (List (Int × (Int × Int)))) : zone_Table_First_l0 s11 s12 b3 b3_1 l10 = lpK (zone_Table_First_l0_step s11 s12 b3 b3_1 l10) (fun h => zone_Table_First_l0 h.1 h.2.1 h.2.2.1 h.2.2.2.1 h.2.2.2.2) := loopOpt_eq _ _

def zone_Table_First (a0_b : (Int × (List (Int × Int)))) (a1_l : (Int × Int)) : Option (Int × Bool) :=
  (zone_Table_Pieces (a0_b.1, a0_b.2) (0 : Int) (8589934593 : Int)).bind fun r10 =>
  let t11 : Int := (Int.ofNat (List.length r10))
  (zone_Table_First_l0 t11 (0 : Int) a1_l.1 a1_l.2 r10).bind fun q0 =>
  sumC q0 (fun a =>
  some (a.1, a.2)) (fun b =>
  some ((0 : Int), false))

def zone_First (a0_z : (ByteArray × (Int × (List (Int × (Int × (Int × (Int × (Int × (Int × Int)))))))))) (a1_l : (Int × Int)) : Option (Int × Int) :=
  (zone_civilTime (a0_z.1, (a0_z.2.1, a0_z.2.2)) (a1_l.1, a1_l.2)).bind fun r13 =>
  cond (r13.2 != (0 : Int)) (
  some ((0 : Int), r13.2)) (
  (zone_Table_First (r13.1.1, r13.1.2) (a1_l.1, a1_l.2)).bind fun r22 =>
  cond (!r22.2) (
  some ((0 : Int), (10 : Int))) (
  some (r22.1, (0 : Int))))

def zone_open (a0_z : (ByteArray × (Int × (List (Int × (Int × (Int × (Int × (Int × (Int × Int)))))))))) (a1_t : Int) : Option ((Int × (List (Int × Int))) × Int) :=
  (zone_Of (a0_z.1, (a0_z.2.1, a0_z.2.2))).bind fun r10 =>
  cond (r10.2 != (0 : Int)) (
  some (((0 : Int), ([] : (List (Int × Int)))), (8 : Int))) (
  (zone_in a1_t (0 : Int) (8589934592 : Int)).bind fun r19 =>
  cond (!r19) (
  some (((0 : Int), ([] : (List (Int × Int)))), (1 : Int))) (
  some ((r10.1.1, r10.1.2), (0 : Int))))

def zone_Table_Offset (a0_b : (Int × (List (Int × Int)))) (a1_t : Int) : Option (Int) :=
  (zone_Table_after (a0_b.1, a0_b.2) a1_t).bind fun r8 =>
  (zone_Table_before (a0_b.1, a0_b.2) r8).bind fun r9 =>
  some r9

def zone_local (a0_n : Int) : Option ((Int × Int)) :=
  let t5 : Int := (w64 (Int.tdiv a0_n (86400 : Int)))
  let t7 : Int := (Int.tmod a0_n (86400 : Int))
  cond (decide (t7 < (0 : Int))) (
  let t10 : Int := (w64 (t5 - (1 : Int)))
  let t14 : Int := (w64 (t10 * (86400 : Int)))
  let t15 : Int := (w64 (a0_n - t14))
  some (t10, t15)) (
  let t14_1 : Int := (w64 (t5 * (86400 : Int)))
  let t15_1 : Int := (w64 (a0_n - t14_1))
  some (t5, t15_1))

def zone_Table_Local (a0_b : (Int × (List (Int × Int)))) (a1_t : Int) : Option ((Int × Int)) :=
  (zone_Table_Offset (a0_b.1, a0_b.2) a1_t).bind fun r8 =>
  let t9 : Int := (w64 (a1_t + r8))
  (zone_local t9).bind fun r10 =>
  some (r10.1, r10.2)

def zone_ToLocal (a0_z : (ByteArray × (Int × (List (Int × (Int × (Int × (Int × (Int × (Int × Int)))))))))) (a1_t : Int) : Option ((Int × Int) × Int) :=
  (zone_open (a0_z.1, (a0_z.2.1, a0_z.2.2)) a1_t).bind fun r11 =>
  cond (r11.2 != (0 : Int)) (
  some (((0 : Int), (0 : Int)), r11.2)) (
  (zone_Table_Local (r11.1.1, r11.1.2) a1_t).bind fun r20 =>
  some ((r20.1, r20.2), (0 : Int)))

def law04_sane  : Option (Bool) :=
  (law04_example).bind fun r10 =>
  (zone_FromLocal (r10.1, (r10.2.1, r10.2.2)) ((20541 : Int), (9000 : Int))).bind fun r14 =>
  (zone_First (r10.1, (r10.2.1, r10.2.2)) ((20541 : Int), (9000 : Int))).bind fun r20 =>
  (zone_FromLocal (r10.1, (r10.2.1, r10.2.2)) ((20751 : Int), (9000 : Int))).bind fun r26 =>
  (zone_ToLocal (r10.1, (r10.2.1, r10.2.2)) r20.1).bind fun r32 =>
  let t48 : Bool := (cond (cond (cond (r14.2 == (0 : Int)) (r20.2 == (0 : Int)) false) (r26.2 == (0 : Int)) false) (r32.2 == (0 : Int)) false)
  let t51 : Int := (Int.ofNat (List.length r14.1))
  let t60 : Int := (Int.ofNat (List.length r26.1))
  let t62 : Bool := (cond (cond (cond t48 (t51 == (0 : Int)) false) (r20.1 == (1774746000 : Int)) false) (t60 == (2 : Int)) false)
  cond ((inR (0 : Int) (List.length r26.1)) || !t62) (
  let t66 : Int := (List.getD r26.1 0 (0 : Int))
  cond ((inR (1 : Int) (List.length r26.1)) || !(cond t62 (t66 == (1792888200 : Int)) false)) (
  let t72 : Int := (List.getD r26.1 1 (0 : Int))
  let t79 : Bool := (cond (cond (cond t62 (t66 == (1792888200 : Int)) false) (t72 == (1792891800 : Int)) false) ((r32.1.1 == (20541 : Int)) && (r32.1.2 == (10800 : Int))) false)
  some t79) none) none

def made_Light (a0_l : (List Int)) : Option (Bool) :=
  let t4 : Int := (Int.ofNat (List.length a0_l))
  some (decide (t4 ≤ (500 : Int)))

def made_Roll (a0_l : (List Int)) : Option ((List Int) × Int) :=
  some (a0_l, (0 : Int))

def made_Dice_Next (a0_d : (List Int)) (a0_d_1 : Int) (a1_n : Int) : Option (Int × (List Int) × Int) :=
  let t14 : Int := (Int.ofNat (List.length a0_d))
  cond (decide (a0_d_1 ≥ t14)) (
  some ((0 : Int), a0_d, a0_d_1)) (
  cond (decide (a1_n < (1 : Int))) (
  some ((0 : Int), a0_d, a0_d_1)) (
  cond (inR a0_d_1 (List.length a0_d)) (
  let t28 : Int := (List.getD a0_d (Int.toNat a0_d_1) (0 : Int))
  cond (!(a1_n == 0)) (
  let t31 : Int := (Int.tmod t28 a1_n)
  let t36 : Int := (w64 (a0_d_1 + (1 : Int)))
  cond (decide (t31 < (0 : Int))) (
  let t43 : Int := (w64 (t31 + a1_n))
  some (t43, a0_d, t36)) (
  some (t31, a0_d, t36))) none) none))

def made_Dice_Pick (a0_d : (List Int)) (a0_d_1 : Int) (a1_l : (List Int)) : Option (Int × (List Int) × Int) :=
  let t8 : Int := (Int.ofNat (List.length a1_l))
  (made_Dice_Next a0_d a0_d_1 t8).bind fun r9 =>
  cond (inR r9.1 (List.length a1_l)) (
  let t10 : Int := (List.getD a1_l (Int.toNat r9.1) (0 : Int))
  some (t10, r9.2.1, r9.2.2)) none

def made_Dice_Zone (a0_d : (List Int)) (a0_d_1 : Int) (a1_name : ByteArray) : Option ((ByteArray × (Int × (List (Int × (Int × (Int × (Int × (Int × (Int × Int))))))))) × (List Int) × Int) :=
  let t10 : (List Int) := [(0 : Int), (4 : Int), (-20 : Int), (22 : Int), (48 : Int), (-47 : Int)]
  (made_Dice_Pick a0_d a0_d_1 t10).bind fun r11 =>
  (made_Dice_Next r11.2.1 r11.2.2 (2 : Int)).bind fun r13 =>
  (made_Dice_Next r13.2.1 r13.2.2 (3 : Int)).bind fun r15 =>
  let t16 : Int := (w64 (r13.1 * r15.1))
  let t17 : Int := (w64 (r11.1 + t16))
  let t18 : Int := (w64 ((900 : Int) * t17))
  (made_Dice_Next r15.2.1 r15.2.2 (2 : Int)).bind fun r21 =>
  let t22 : Int := (w64 ((2025 : Int) + r21.1))
  (made_Dice_Next r21.2.1 r21.2.2 (4 : Int)).bind fun r24 =>
  cond (r24.1 == (1 : Int)) (
  let t30 : Int := (w64 (t18 + (3600 : Int)))
  let t36 : (List (Int × (Int × (Int × (Int × (Int × (Int × Int))))))) := [((2025 : Int), (t22, ((3 : Int), ((5 : Int), ((6 : Int), ((7200 : Int), t30)))))), ((2025 : Int), (t22, ((10 : Int), ((5 : Int), ((6 : Int), ((10800 : Int), t18))))))]
  some ((a1_name, (t18, t36)), r24.2.1, r24.2.2)) (
  cond (r24.1 == (2 : Int)) (
  (made_Dice_Next r24.2.1 r24.2.2 (4 : Int)).bind fun r42 =>
  let t43 : Int := (w64 ((1 : Int) + r42.1))
  (made_Dice_Next r42.2.1 r42.2.2 (7 : Int)).bind fun r45 =>
  (made_Dice_Next r45.2.1 r45.2.2 (24 : Int)).bind fun r47 =>
  let t48 : Int := (w64 ((3600 : Int) * r47.1))
  (made_Dice_Next r47.2.1 r47.2.2 (8 : Int)).bind fun r52 =>
  let t53 : Int := (w64 ((1 : Int) + r52.1))
  let t54 : Int := (w64 ((1800 : Int) * t53))
  let t55 : Int := (w64 (t18 + t54))
  (made_Dice_Next r52.2.1 r52.2.2 (2 : Int)).bind fun r59 =>
  let t60 : Int := (w64 ((2 : Int) + r59.1))
  let t62 : (List Int) := [(2 : Int), (3 : Int), (5 : Int)]
  (made_Dice_Pick r59.2.1 r59.2.2 t62).bind fun r63 =>
  (made_Dice_Next r63.2.1 r63.2.2 (7 : Int)).bind fun r65 =>
  (made_Dice_Next r65.2.1 r65.2.2 (24 : Int)).bind fun r67 =>
  let t68 : Int := (w64 ((3600 : Int) * r67.1))
  let t72 : (List (Int × (Int × (Int × (Int × (Int × (Int × Int))))))) := [((2025 : Int), (t22, ((1 : Int), (t43, (r45.1, (t48, t55)))))), ((2025 : Int), (t22, (t60, (r63.1, (r65.1, (t68, t18))))))]
  some ((a1_name, (t18, t72)), r67.2.1, r67.2.2)) (
  cond (r24.1 == (3 : Int)) (
  let t79 : (List Int) := [(3600 : Int), (-3600 : Int), (82800 : Int), (-82800 : Int), (43200 : Int)]
  (made_Dice_Pick r24.2.1 r24.2.2 t79).bind fun r80 =>
  let t81 : Int := (w64 (t18 + r80.1))
  cond (cond (decide (t81 > (64800 : Int))) true (decide (t81 < (-64800 : Int)))) (
  (made_Dice_Next r80.2.1 r80.2.2 (7 : Int)).bind fun r89 =>
  (made_Dice_Next r89.2.1 r89.2.2 (48 : Int)).bind fun r91 =>
  let t92 : Int := (w64 ((1800 : Int) * r91.1))
  let t95 : (List (Int × (Int × (Int × (Int × (Int × (Int × Int))))))) := [((2026 : Int), ((2026 : Int), ((1 : Int), ((2 : Int), (r89.1, (t92, (0 : Int)))))))]
  some ((a1_name, (t18, t95)), r91.2.1, r91.2.2)) (
  (made_Dice_Next r80.2.1 r80.2.2 (7 : Int)).bind fun r89_1 =>
  (made_Dice_Next r89_1.2.1 r89_1.2.2 (48 : Int)).bind fun r91_1 =>
  let t92_1 : Int := (w64 ((1800 : Int) * r91_1.1))
  let t95_1 : (List (Int × (Int × (Int × (Int × (Int × (Int × Int))))))) := [((2026 : Int), ((2026 : Int), ((1 : Int), ((2 : Int), (r89_1.1, (t92_1, t81))))))]
  some ((a1_name, (t18, t95_1)), r91_1.2.1, r91_1.2.2))) (
  some ((a1_name, (t18, ([] : (List (Int × (Int × (Int × (Int × (Int × (Int × Int)))))))))), r24.2.1, r24.2.2))))

def made_Dice_Bool (a0_d : (List Int)) (a0_d_1 : Int) (a1_n : Int) : Option (Bool × (List Int) × Int) :=
  (made_Dice_Next a0_d a0_d_1 a1_n).bind fun r7 =>
  let t9 : Int := (w64 (a1_n - (1 : Int)))
  some ((r7.1 == t9), r7.2.1, r7.2.2)

def law04_odd (a0_d : (List Int)) (a0_d_1 : Int) (a1_z : (ByteArray × (Int × (List (Int × (Int × (Int × (Int × (Int × (Int × Int)))))))))) : Option ((ByteArray × (Int × (List (Int × (Int × (Int × (Int × (Int × (Int × Int))))))))) × (List Int) × Int) :=
  cond (decide (List.length ([] : (List (Int × (Int × (Int × (Int × (Int × (Int × Int)))))))) + List.length a1_z.2.2 ≤ sizeMax)) (
  let t8 : (List (Int × (Int × (Int × (Int × (Int × (Int × Int))))))) := (([] : (List (Int × (Int × (Int × (Int × (Int × (Int × Int)))))))) ++ a1_z.2.2)
  let t12 : Int := (Int.ofNat (List.length t8))
  cond (t12 == (0 : Int)) (
  let t19 : (List Int) := [(64800 : Int), (64801 : Int), (-64800 : Int), (-64801 : Int), (86400 : Int)]
  (made_Dice_Pick a0_d a0_d_1 t19).bind fun r20 =>
  some ((a1_z.1, (r20.1, t8)), r20.2.1, r20.2.2)) (
  (made_Dice_Bool a0_d a0_d_1 (4 : Int)).bind fun r16 =>
  cond r16.1 (
  let t19_1 : (List Int) := [(64800 : Int), (64801 : Int), (-64800 : Int), (-64801 : Int), (86400 : Int)]
  (made_Dice_Pick r16.2.1 r16.2.2 t19_1).bind fun r20_1 =>
  some ((a1_z.1, (r20_1.1, t8)), r20_1.2.1, r20_1.2.2)) (
  let t28 : Int := (Int.ofNat (List.length t8))
  (made_Dice_Next r16.2.1 r16.2.2 t28).bind fun r29 =>
  cond (inR r29.1 (List.length t8)) (
  (made_Dice_Next r29.2.1 r29.2.2 (8 : Int)).bind fun r32 =>
  cond (r32.1 == (0 : Int)) (
  let t60 : Int := (List.getD t8 (Int.toNat r29.1) ((0 : Int), ((0 : Int), ((0 : Int), ((0 : Int), ((0 : Int), ((0 : Int), (0 : Int)))))))).2.1
  let t64 : Int := (List.getD t8 (Int.toNat r29.1) ((0 : Int), ((0 : Int), ((0 : Int), ((0 : Int), ((0 : Int), ((0 : Int), (0 : Int)))))))).2.1
  let t65 : Int := (w64 (t64 + (1 : Int)))
  let t66 : (List Int) := [(1969 : Int), (1970 : Int), t60, t65]
  (made_Dice_Pick r32.2.1 r32.2.2 t66).bind fun r67 =>
  let m15 : (List (Int × (Int × (Int × (Int × (Int × (Int × Int))))))) := (List.set t8 (Int.toNat r29.1) (r67.1, ((List.getD t8 (Int.toNat r29.1) ((0 : Int), ((0 : Int), ((0 : Int), ((0 : Int), ((0 : Int), ((0 : Int), (0 : Int)))))))).2.1, ((List.getD t8 (Int.toNat r29.1) ((0 : Int), ((0 : Int), ((0 : Int), ((0 : Int), ((0 : Int), ((0 : Int), (0 : Int)))))))).2.2.1, ((List.getD t8 (Int.toNat r29.1) ((0 : Int), ((0 : Int), ((0 : Int), ((0 : Int), ((0 : Int), ((0 : Int), (0 : Int)))))))).2.2.2.1, ((List.getD t8 (Int.toNat r29.1) ((0 : Int), ((0 : Int), ((0 : Int), ((0 : Int), ((0 : Int), ((0 : Int), (0 : Int)))))))).2.2.2.2.1, ((List.getD t8 (Int.toNat r29.1) ((0 : Int), ((0 : Int), ((0 : Int), ((0 : Int), ((0 : Int), ((0 : Int), (0 : Int)))))))).2.2.2.2.2.1, (List.getD t8 (Int.toNat r29.1) ((0 : Int), ((0 : Int), ((0 : Int), ((0 : Int), ((0 : Int), ((0 : Int), (0 : Int)))))))).2.2.2.2.2.2)))))))
  some ((a1_z.1, (a1_z.2.1, m15)), r67.2.1, r67.2.2)) (
  cond (r32.1 == (1 : Int)) (
  let t77 : Int := (List.getD t8 (Int.toNat r29.1) ((0 : Int), ((0 : Int), ((0 : Int), ((0 : Int), ((0 : Int), ((0 : Int), (0 : Int)))))))).1
  let t78 : (List Int) := [(2240 : Int), (2241 : Int), t77]
  (made_Dice_Pick r32.2.1 r32.2.2 t78).bind fun r79 =>
  let m10 : (List (Int × (Int × (Int × (Int × (Int × (Int × Int))))))) := (List.set t8 (Int.toNat r29.1) ((List.getD t8 (Int.toNat r29.1) ((0 : Int), ((0 : Int), ((0 : Int), ((0 : Int), ((0 : Int), ((0 : Int), (0 : Int)))))))).1, (r79.1, ((List.getD t8 (Int.toNat r29.1) ((0 : Int), ((0 : Int), ((0 : Int), ((0 : Int), ((0 : Int), ((0 : Int), (0 : Int)))))))).2.2.1, ((List.getD t8 (Int.toNat r29.1) ((0 : Int), ((0 : Int), ((0 : Int), ((0 : Int), ((0 : Int), ((0 : Int), (0 : Int)))))))).2.2.2.1, ((List.getD t8 (Int.toNat r29.1) ((0 : Int), ((0 : Int), ((0 : Int), ((0 : Int), ((0 : Int), ((0 : Int), (0 : Int)))))))).2.2.2.2.1, ((List.getD t8 (Int.toNat r29.1) ((0 : Int), ((0 : Int), ((0 : Int), ((0 : Int), ((0 : Int), ((0 : Int), (0 : Int)))))))).2.2.2.2.2.1, (List.getD t8 (Int.toNat r29.1) ((0 : Int), ((0 : Int), ((0 : Int), ((0 : Int), ((0 : Int), ((0 : Int), (0 : Int)))))))).2.2.2.2.2.2)))))))
  some ((a1_z.1, (a1_z.2.1, m10)), r79.2.1, r79.2.2)) (
  cond (r32.1 == (2 : Int)) (
  let t86 : (List Int) := [(0 : Int), (12 : Int), (13 : Int), (1 : Int)]
  (made_Dice_Pick r32.2.1 r32.2.2 t86).bind fun r87 =>
  let m6 : (List (Int × (Int × (Int × (Int × (Int × (Int × Int))))))) := (List.set t8 (Int.toNat r29.1) ((List.getD t8 (Int.toNat r29.1) ((0 : Int), ((0 : Int), ((0 : Int), ((0 : Int), ((0 : Int), ((0 : Int), (0 : Int)))))))).1, ((List.getD t8 (Int.toNat r29.1) ((0 : Int), ((0 : Int), ((0 : Int), ((0 : Int), ((0 : Int), ((0 : Int), (0 : Int)))))))).2.1, (r87.1, ((List.getD t8 (Int.toNat r29.1) ((0 : Int), ((0 : Int), ((0 : Int), ((0 : Int), ((0 : Int), ((0 : Int), (0 : Int)))))))).2.2.2.1, ((List.getD t8 (Int.toNat r29.1) ((0 : Int), ((0 : Int), ((0 : Int), ((0 : Int), ((0 : Int), ((0 : Int), (0 : Int)))))))).2.2.2.2.1, ((List.getD t8 (Int.toNat r29.1) ((0 : Int), ((0 : Int), ((0 : Int), ((0 : Int), ((0 : Int), ((0 : Int), (0 : Int)))))))).2.2.2.2.2.1, (List.getD t8 (Int.toNat r29.1) ((0 : Int), ((0 : Int), ((0 : Int), ((0 : Int), ((0 : Int), ((0 : Int), (0 : Int)))))))).2.2.2.2.2.2)))))))
  some ((a1_z.1, (a1_z.2.1, m6)), r87.2.1, r87.2.2)) (
  cond (r32.1 == (3 : Int)) (
  let t94 : (List Int) := [(0 : Int), (5 : Int), (6 : Int)]
  (made_Dice_Pick r32.2.1 r32.2.2 t94).bind fun r95 =>
  let m6_1 : (List (Int × (Int × (Int × (Int × (Int × (Int × Int))))))) := (List.set t8 (Int.toNat r29.1) ((List.getD t8 (Int.toNat r29.1) ((0 : Int), ((0 : Int), ((0 : Int), ((0 : Int), ((0 : Int), ((0 : Int), (0 : Int)))))))).1, ((List.getD t8 (Int.toNat r29.1) ((0 : Int), ((0 : Int), ((0 : Int), ((0 : Int), ((0 : Int), ((0 : Int), (0 : Int)))))))).2.1, ((List.getD t8 (Int.toNat r29.1) ((0 : Int), ((0 : Int), ((0 : Int), ((0 : Int), ((0 : Int), ((0 : Int), (0 : Int)))))))).2.2.1, (r95.1, ((List.getD t8 (Int.toNat r29.1) ((0 : Int), ((0 : Int), ((0 : Int), ((0 : Int), ((0 : Int), ((0 : Int), (0 : Int)))))))).2.2.2.2.1, ((List.getD t8 (Int.toNat r29.1) ((0 : Int), ((0 : Int), ((0 : Int), ((0 : Int), ((0 : Int), ((0 : Int), (0 : Int)))))))).2.2.2.2.2.1, (List.getD t8 (Int.toNat r29.1) ((0 : Int), ((0 : Int), ((0 : Int), ((0 : Int), ((0 : Int), ((0 : Int), (0 : Int)))))))).2.2.2.2.2.2)))))))
  some ((a1_z.1, (a1_z.2.1, m6_1)), r95.2.1, r95.2.2)) (
  cond (r32.1 == (4 : Int)) (
  let t102 : (List Int) := [(-1 : Int), (0 : Int), (6 : Int), (7 : Int)]
  (made_Dice_Pick r32.2.1 r32.2.2 t102).bind fun r103 =>
  let m6_2 : (List (Int × (Int × (Int × (Int × (Int × (Int × Int))))))) := (List.set t8 (Int.toNat r29.1) ((List.getD t8 (Int.toNat r29.1) ((0 : Int), ((0 : Int), ((0 : Int), ((0 : Int), ((0 : Int), ((0 : Int), (0 : Int)))))))).1, ((List.getD t8 (Int.toNat r29.1) ((0 : Int), ((0 : Int), ((0 : Int), ((0 : Int), ((0 : Int), ((0 : Int), (0 : Int)))))))).2.1, ((List.getD t8 (Int.toNat r29.1) ((0 : Int), ((0 : Int), ((0 : Int), ((0 : Int), ((0 : Int), ((0 : Int), (0 : Int)))))))).2.2.1, ((List.getD t8 (Int.toNat r29.1) ((0 : Int), ((0 : Int), ((0 : Int), ((0 : Int), ((0 : Int), ((0 : Int), (0 : Int)))))))).2.2.2.1, (r103.1, ((List.getD t8 (Int.toNat r29.1) ((0 : Int), ((0 : Int), ((0 : Int), ((0 : Int), ((0 : Int), ((0 : Int), (0 : Int)))))))).2.2.2.2.2.1, (List.getD t8 (Int.toNat r29.1) ((0 : Int), ((0 : Int), ((0 : Int), ((0 : Int), ((0 : Int), ((0 : Int), (0 : Int)))))))).2.2.2.2.2.2)))))))
  some ((a1_z.1, (a1_z.2.1, m6_2)), r103.2.1, r103.2.2)) (
  cond (r32.1 == (5 : Int)) (
  let t110 : (List Int) := [(-1 : Int), (0 : Int), (86399 : Int), (86400 : Int)]
  (made_Dice_Pick r32.2.1 r32.2.2 t110).bind fun r111 =>
  let m6_3 : (List (Int × (Int × (Int × (Int × (Int × (Int × Int))))))) := (List.set t8 (Int.toNat r29.1) ((List.getD t8 (Int.toNat r29.1) ((0 : Int), ((0 : Int), ((0 : Int), ((0 : Int), ((0 : Int), ((0 : Int), (0 : Int)))))))).1, ((List.getD t8 (Int.toNat r29.1) ((0 : Int), ((0 : Int), ((0 : Int), ((0 : Int), ((0 : Int), ((0 : Int), (0 : Int)))))))).2.1, ((List.getD t8 (Int.toNat r29.1) ((0 : Int), ((0 : Int), ((0 : Int), ((0 : Int), ((0 : Int), ((0 : Int), (0 : Int)))))))).2.2.1, ((List.getD t8 (Int.toNat r29.1) ((0 : Int), ((0 : Int), ((0 : Int), ((0 : Int), ((0 : Int), ((0 : Int), (0 : Int)))))))).2.2.2.1, ((List.getD t8 (Int.toNat r29.1) ((0 : Int), ((0 : Int), ((0 : Int), ((0 : Int), ((0 : Int), ((0 : Int), (0 : Int)))))))).2.2.2.2.1, (r111.1, (List.getD t8 (Int.toNat r29.1) ((0 : Int), ((0 : Int), ((0 : Int), ((0 : Int), ((0 : Int), ((0 : Int), (0 : Int)))))))).2.2.2.2.2.2)))))))
  some ((a1_z.1, (a1_z.2.1, m6_3)), r111.2.1, r111.2.2)) (
  cond (r32.1 == (6 : Int)) (
  let t122 : Int := (w64 (a1_z.2.1 + (86399 : Int)))
  let t125 : Int := (w64 (a1_z.2.1 + (86400 : Int)))
  let t126 : (List Int) := [(64800 : Int), (64801 : Int), a1_z.2.1, t122, t125]
  (made_Dice_Pick r32.2.1 r32.2.2 t126).bind fun r127 =>
  let m14 : (List (Int × (Int × (Int × (Int × (Int × (Int × Int))))))) := (List.set t8 (Int.toNat r29.1) ((List.getD t8 (Int.toNat r29.1) ((0 : Int), ((0 : Int), ((0 : Int), ((0 : Int), ((0 : Int), ((0 : Int), (0 : Int)))))))).1, ((List.getD t8 (Int.toNat r29.1) ((0 : Int), ((0 : Int), ((0 : Int), ((0 : Int), ((0 : Int), ((0 : Int), (0 : Int)))))))).2.1, ((List.getD t8 (Int.toNat r29.1) ((0 : Int), ((0 : Int), ((0 : Int), ((0 : Int), ((0 : Int), ((0 : Int), (0 : Int)))))))).2.2.1, ((List.getD t8 (Int.toNat r29.1) ((0 : Int), ((0 : Int), ((0 : Int), ((0 : Int), ((0 : Int), ((0 : Int), (0 : Int)))))))).2.2.2.1, ((List.getD t8 (Int.toNat r29.1) ((0 : Int), ((0 : Int), ((0 : Int), ((0 : Int), ((0 : Int), ((0 : Int), (0 : Int)))))))).2.2.2.2.1, ((List.getD t8 (Int.toNat r29.1) ((0 : Int), ((0 : Int), ((0 : Int), ((0 : Int), ((0 : Int), ((0 : Int), (0 : Int)))))))).2.2.2.2.2.1, r127.1)))))))
  some ((a1_z.1, (a1_z.2.1, m14)), r127.2.1, r127.2.2)) (
  cond (inR (0 : Int) (List.length t8)) (
  let t38 : Int := (List.getD t8 0 ((0 : Int), ((0 : Int), ((0 : Int), ((0 : Int), ((0 : Int), ((0 : Int), (0 : Int)))))))).1
  let t38_1 : Int := (List.getD t8 0 ((0 : Int), ((0 : Int), ((0 : Int), ((0 : Int), ((0 : Int), ((0 : Int), (0 : Int)))))))).2.1
  let t38_2 : Int := (List.getD t8 0 ((0 : Int), ((0 : Int), ((0 : Int), ((0 : Int), ((0 : Int), ((0 : Int), (0 : Int)))))))).2.2.1
  let t38_3 : Int := (List.getD t8 0 ((0 : Int), ((0 : Int), ((0 : Int), ((0 : Int), ((0 : Int), ((0 : Int), (0 : Int)))))))).2.2.2.1
  let t38_4 : Int := (List.getD t8 0 ((0 : Int), ((0 : Int), ((0 : Int), ((0 : Int), ((0 : Int), ((0 : Int), (0 : Int)))))))).2.2.2.2.1
  let t38_5 : Int := (List.getD t8 0 ((0 : Int), ((0 : Int), ((0 : Int), ((0 : Int), ((0 : Int), ((0 : Int), (0 : Int)))))))).2.2.2.2.2.1
  let t38_6 : Int := (List.getD t8 0 ((0 : Int), ((0 : Int), ((0 : Int), ((0 : Int), ((0 : Int), ((0 : Int), (0 : Int)))))))).2.2.2.2.2.2
  let t39 : (List (Int × (Int × (Int × (Int × (Int × (Int × Int))))))) := [(t38, (t38_1, (t38_2, (t38_3, (t38_4, (t38_5, t38_6))))))]
  cond (decide (List.length t8 + List.length t39 ≤ sizeMax)) (
  let t40 : (List (Int × (Int × (Int × (Int × (Int × (Int × Int))))))) := (t8 ++ t39)
  let t46 : Int := (Int.ofNat (List.length t40))
  let t47 : Int := (w64 (t46 - (1 : Int)))
  let t49 : (List Int) := [(1 : Int), (2 : Int), (5 : Int)]
  (made_Dice_Pick r32.2.1 r32.2.2 t49).bind fun r50 =>
  cond (inR t47 (List.length t40)) (
  let m11 : (List (Int × (Int × (Int × (Int × (Int × (Int × Int))))))) := (List.set t40 (Int.toNat t47) ((List.getD t40 (Int.toNat t47) ((0 : Int), ((0 : Int), ((0 : Int), ((0 : Int), ((0 : Int), ((0 : Int), (0 : Int)))))))).1, ((List.getD t40 (Int.toNat t47) ((0 : Int), ((0 : Int), ((0 : Int), ((0 : Int), ((0 : Int), ((0 : Int), (0 : Int)))))))).2.1, ((List.getD t40 (Int.toNat t47) ((0 : Int), ((0 : Int), ((0 : Int), ((0 : Int), ((0 : Int), ((0 : Int), (0 : Int)))))))).2.2.1, (r50.1, ((List.getD t40 (Int.toNat t47) ((0 : Int), ((0 : Int), ((0 : Int), ((0 : Int), ((0 : Int), ((0 : Int), (0 : Int)))))))).2.2.2.2.1, ((List.getD t40 (Int.toNat t47) ((0 : Int), ((0 : Int), ((0 : Int), ((0 : Int), ((0 : Int), ((0 : Int), (0 : Int)))))))).2.2.2.2.2.1, (List.getD t40 (Int.toNat t47) ((0 : Int), ((0 : Int), ((0 : Int), ((0 : Int), ((0 : Int), ((0 : Int), (0 : Int)))))))).2.2.2.2.2.2)))))))
  some ((a1_z.1, (a1_z.2.1, m11)), r50.2.1, r50.2.2)) none) none) none)))))))) none))) none

def r04_in (a0_n : Int) (a1_lo : Int) (a2_hi : Int) : Option (Bool) :=
  some (cond (decide (a0_n ≥ a1_lo)) (decide (a0_n ≤ a2_hi)) false)

def r04_right (a0_r : (Int × (Int × (Int × (Int × (Int × (Int × Int))))))) : Option (Bool) :=
  (r04_in a0_r.1 (1970 : Int) (2240 : Int)).bind fun r5 =>
  cond r5 (
  (r04_in a0_r.2.1 a0_r.1 (2240 : Int)).bind fun r11 =>
  cond r11 (
  (r04_in a0_r.2.2.1 (1 : Int) (12 : Int)).bind fun r16 =>
  cond r16 (
  (r04_in a0_r.2.2.2.1 (1 : Int) (5 : Int)).bind fun r21 =>
  cond r21 (
  (r04_in a0_r.2.2.2.2.1 (0 : Int) (6 : Int)).bind fun r26 =>
  cond r26 (
  (r04_in a0_r.2.2.2.2.2.1 (0 : Int) (86399 : Int)).bind fun r31 =>
  cond r31 (
  (r04_in a0_r.2.2.2.2.2.2 (-64800 : Int) (64800 : Int)).bind fun r36 =>
  some r36) (
  some false)) (
  some false)) (
  some false)) (
  some false)) (
  some false)) (
  some false)

def r01_Leap (a0_year : Int) : Option (Bool) :=
  let t4 : Int := (Int.tmod a0_year (4 : Int))
  let t8 : Int := (Int.tmod a0_year (100 : Int))
  let t12 : Int := (Int.tmod a0_year (400 : Int))
  some (cond (t4 == (0 : Int)) (cond (t8 != (0 : Int)) true (t12 == (0 : Int))) false)

def r01_Days (a0_year : Int) (a1_month : Int) : Option (Int) :=
  cond (a1_month == (1 : Int)) (
  cond (a1_month == (1 : Int)) (
  some (31 : Int)) (
  cond (a1_month == (4 : Int)) (
  cond (a1_month == (4 : Int)) (
  some (30 : Int)) (
  cond (a1_month == (2 : Int)) (
  (r01_Leap a0_year).bind fun r22 =>
  cond r22 (
  some (29 : Int)) (
  some (28 : Int))) (
  some (0 : Int)))) (
  cond (a1_month == (6 : Int)) (
  cond (a1_month == (6 : Int)) (
  some (30 : Int)) (
  cond (a1_month == (2 : Int)) (
  (r01_Leap a0_year).bind fun r22_1 =>
  cond r22_1 (
  some (29 : Int)) (
  some (28 : Int))) (
  some (0 : Int)))) (
  cond (a1_month == (9 : Int)) (
  cond (a1_month == (9 : Int)) (
  some (30 : Int)) (
  cond (a1_month == (2 : Int)) (
  (r01_Leap a0_year).bind fun r22_2 =>
  cond r22_2 (
  some (29 : Int)) (
  some (28 : Int))) (
  some (0 : Int)))) (
  cond (a1_month == (11 : Int)) (
  some (30 : Int)) (
  cond (a1_month == (2 : Int)) (
  (r01_Leap a0_year).bind fun r22_3 =>
  cond r22_3 (
  some (29 : Int)) (
  some (28 : Int))) (
  some (0 : Int)))))))) (
  cond (a1_month == (3 : Int)) (
  cond (a1_month == (3 : Int)) (
  some (31 : Int)) (
  cond (a1_month == (4 : Int)) (
  cond (a1_month == (4 : Int)) (
  some (30 : Int)) (
  cond (a1_month == (2 : Int)) (
  (r01_Leap a0_year).bind fun r22_4 =>
  cond r22_4 (
  some (29 : Int)) (
  some (28 : Int))) (
  some (0 : Int)))) (
  cond (a1_month == (6 : Int)) (
  cond (a1_month == (6 : Int)) (
  some (30 : Int)) (
  cond (a1_month == (2 : Int)) (
  (r01_Leap a0_year).bind fun r22_5 =>
  cond r22_5 (
  some (29 : Int)) (
  some (28 : Int))) (
  some (0 : Int)))) (
  cond (a1_month == (9 : Int)) (
  cond (a1_month == (9 : Int)) (
  some (30 : Int)) (
  cond (a1_month == (2 : Int)) (
  (r01_Leap a0_year).bind fun r22_6 =>
  cond r22_6 (
  some (29 : Int)) (
  some (28 : Int))) (
  some (0 : Int)))) (
  cond (a1_month == (11 : Int)) (
  some (30 : Int)) (
  cond (a1_month == (2 : Int)) (
  (r01_Leap a0_year).bind fun r22_7 =>
  cond r22_7 (
  some (29 : Int)) (
  some (28 : Int))) (
  some (0 : Int)))))))) (
  cond (a1_month == (5 : Int)) (
  cond (a1_month == (5 : Int)) (
  some (31 : Int)) (
  cond (a1_month == (4 : Int)) (
  cond (a1_month == (4 : Int)) (
  some (30 : Int)) (
  cond (a1_month == (2 : Int)) (
  (r01_Leap a0_year).bind fun r22_8 =>
  cond r22_8 (
  some (29 : Int)) (
  some (28 : Int))) (
  some (0 : Int)))) (
  cond (a1_month == (6 : Int)) (
  cond (a1_month == (6 : Int)) (
  some (30 : Int)) (
  cond (a1_month == (2 : Int)) (
  (r01_Leap a0_year).bind fun r22_9 =>
  cond r22_9 (
  some (29 : Int)) (
  some (28 : Int))) (
  some (0 : Int)))) (
  cond (a1_month == (9 : Int)) (
  cond (a1_month == (9 : Int)) (
  some (30 : Int)) (
  cond (a1_month == (2 : Int)) (
  (r01_Leap a0_year).bind fun r22_10 =>
  cond r22_10 (
  some (29 : Int)) (
  some (28 : Int))) (
  some (0 : Int)))) (
  cond (a1_month == (11 : Int)) (
  some (30 : Int)) (
  cond (a1_month == (2 : Int)) (
  (r01_Leap a0_year).bind fun r22_11 =>
  cond r22_11 (
  some (29 : Int)) (
  some (28 : Int))) (
  some (0 : Int)))))))) (
  cond (a1_month == (7 : Int)) (
  cond (a1_month == (7 : Int)) (
  some (31 : Int)) (
  cond (a1_month == (4 : Int)) (
  cond (a1_month == (4 : Int)) (
  some (30 : Int)) (
  cond (a1_month == (2 : Int)) (
  (r01_Leap a0_year).bind fun r22_12 =>
  cond r22_12 (
  some (29 : Int)) (
  some (28 : Int))) (
  some (0 : Int)))) (
  cond (a1_month == (6 : Int)) (
  cond (a1_month == (6 : Int)) (
  some (30 : Int)) (
  cond (a1_month == (2 : Int)) (
  (r01_Leap a0_year).bind fun r22_13 =>
  cond r22_13 (
  some (29 : Int)) (
  some (28 : Int))) (
  some (0 : Int)))) (
  cond (a1_month == (9 : Int)) (
  cond (a1_month == (9 : Int)) (
  some (30 : Int)) (
  cond (a1_month == (2 : Int)) (
  (r01_Leap a0_year).bind fun r22_14 =>
  cond r22_14 (
  some (29 : Int)) (
  some (28 : Int))) (
  some (0 : Int)))) (
  cond (a1_month == (11 : Int)) (
  some (30 : Int)) (
  cond (a1_month == (2 : Int)) (
  (r01_Leap a0_year).bind fun r22_15 =>
  cond r22_15 (
  some (29 : Int)) (
  some (28 : Int))) (
  some (0 : Int)))))))) (
  cond (a1_month == (8 : Int)) (
  cond (a1_month == (8 : Int)) (
  some (31 : Int)) (
  cond (a1_month == (4 : Int)) (
  cond (a1_month == (4 : Int)) (
  some (30 : Int)) (
  cond (a1_month == (2 : Int)) (
  (r01_Leap a0_year).bind fun r22_16 =>
  cond r22_16 (
  some (29 : Int)) (
  some (28 : Int))) (
  some (0 : Int)))) (
  cond (a1_month == (6 : Int)) (
  cond (a1_month == (6 : Int)) (
  some (30 : Int)) (
  cond (a1_month == (2 : Int)) (
  (r01_Leap a0_year).bind fun r22_17 =>
  cond r22_17 (
  some (29 : Int)) (
  some (28 : Int))) (
  some (0 : Int)))) (
  cond (a1_month == (9 : Int)) (
  cond (a1_month == (9 : Int)) (
  some (30 : Int)) (
  cond (a1_month == (2 : Int)) (
  (r01_Leap a0_year).bind fun r22_18 =>
  cond r22_18 (
  some (29 : Int)) (
  some (28 : Int))) (
  some (0 : Int)))) (
  cond (a1_month == (11 : Int)) (
  some (30 : Int)) (
  cond (a1_month == (2 : Int)) (
  (r01_Leap a0_year).bind fun r22_19 =>
  cond r22_19 (
  some (29 : Int)) (
  some (28 : Int))) (
  some (0 : Int)))))))) (
  cond (a1_month == (10 : Int)) (
  cond (a1_month == (10 : Int)) (
  some (31 : Int)) (
  cond (a1_month == (4 : Int)) (
  cond (a1_month == (4 : Int)) (
  some (30 : Int)) (
  cond (a1_month == (2 : Int)) (
  (r01_Leap a0_year).bind fun r22_20 =>
  cond r22_20 (
  some (29 : Int)) (
  some (28 : Int))) (
  some (0 : Int)))) (
  cond (a1_month == (6 : Int)) (
  cond (a1_month == (6 : Int)) (
  some (30 : Int)) (
  cond (a1_month == (2 : Int)) (
  (r01_Leap a0_year).bind fun r22_21 =>
  cond r22_21 (
  some (29 : Int)) (
  some (28 : Int))) (
  some (0 : Int)))) (
  cond (a1_month == (9 : Int)) (
  cond (a1_month == (9 : Int)) (
  some (30 : Int)) (
  cond (a1_month == (2 : Int)) (
  (r01_Leap a0_year).bind fun r22_22 =>
  cond r22_22 (
  some (29 : Int)) (
  some (28 : Int))) (
  some (0 : Int)))) (
  cond (a1_month == (11 : Int)) (
  some (30 : Int)) (
  cond (a1_month == (2 : Int)) (
  (r01_Leap a0_year).bind fun r22_23 =>
  cond r22_23 (
  some (29 : Int)) (
  some (28 : Int))) (
  some (0 : Int)))))))) (
  cond (a1_month == (12 : Int)) (
  some (31 : Int)) (
  cond (a1_month == (4 : Int)) (
  cond (a1_month == (4 : Int)) (
  some (30 : Int)) (
  cond (a1_month == (2 : Int)) (
  (r01_Leap a0_year).bind fun r22_24 =>
  cond r22_24 (
  some (29 : Int)) (
  some (28 : Int))) (
  some (0 : Int)))) (
  cond (a1_month == (6 : Int)) (
  cond (a1_month == (6 : Int)) (
  some (30 : Int)) (
  cond (a1_month == (2 : Int)) (
  (r01_Leap a0_year).bind fun r22_25 =>
  cond r22_25 (
  some (29 : Int)) (
  some (28 : Int))) (
  some (0 : Int)))) (
  cond (a1_month == (9 : Int)) (
  cond (a1_month == (9 : Int)) (
  some (30 : Int)) (
  cond (a1_month == (2 : Int)) (
  (r01_Leap a0_year).bind fun r22_26 =>
  cond r22_26 (
  some (29 : Int)) (
  some (28 : Int))) (
  some (0 : Int)))) (
  cond (a1_month == (11 : Int)) (
  some (30 : Int)) (
  cond (a1_month == (2 : Int)) (
  (r01_Leap a0_year).bind fun r22_27 =>
  cond r22_27 (
  some (29 : Int)) (
  some (28 : Int))) (
  some (0 : Int)))))))))))))

def r01_Valid (a0_d : (Int × (Int × Int))) : Option (Bool) :=
  cond (decide (a0_d.1 ≥ (1970 : Int))) (
  cond (decide (a0_d.1 ≤ (2240 : Int))) (
  cond (decide (a0_d.2.1 ≥ (1 : Int))) (
  cond (decide (a0_d.2.1 ≤ (12 : Int))) (
  cond (decide (a0_d.2.2 ≥ (1 : Int))) (
  (r01_Days a0_d.1 a0_d.2.1).bind fun r33 =>
  some (decide (a0_d.2.2 ≤ r33))) (
  some false)) (
  some false)) (
  some false)) (
  some false)) (
  some false)

def r01_year (a0_y : Int) : Option (Int) :=
  let t4 : Int := (w64 (a0_y - (1970 : Int)))
  let t5 : Int := (w64 (t4 * (365 : Int)))
  let t7 : Int := (w64 (a0_y - (1969 : Int)))
  let t8 : Int := (w64 (Int.tdiv t7 (4 : Int)))
  let t9 : Int := (w64 (t5 + t8))
  let t11 : Int := (w64 (a0_y - (1901 : Int)))
  let t12 : Int := (w64 (Int.tdiv t11 (100 : Int)))
  let t13 : Int := (w64 (t9 - t12))
  let t15 : Int := (w64 (a0_y - (1601 : Int)))
  let t16 : Int := (w64 (Int.tdiv t15 (400 : Int)))
  let t17 : Int := (w64 (t13 + t16))
  some t17

def r01_Day_l0_step (s4 : Int) (s5 : Int) (b1 : Int) (b1_1 : Int) (b1_2 : Int) : Option ((Int × Int × Int × Int × Int) ⊕ ((Int × Int × Int × Int))) :=
  cond (decide (s5 < b1_1)) (
  (r01_Days b1 s5).bind fun r22_1 =>
  let t23_1 : Int := (w64 (s4 + r22_1))
  let t17_1 : Int := (w64 (s5 + (1 : Int)))
  some (.inl (t23_1, t17_1, b1, b1_1, b1_2))) (
  some (.inr (s4, b1, b1_1, b1_2)))

def r01_Day_l0 (s4 : Int) (s5 : Int) (b1 : Int) (b1_1 : Int) (b1_2 : Int) : Option ((Int × Int × Int × Int)) :=
  loopOpt (fun h : Int × Int × Int × Int × Int => r01_Day_l0_step h.1 h.2.1 h.2.2.1 h.2.2.2.1 h.2.2.2.2) (s4, s5, b1, b1_1, b1_2)

theorem r01_Day_l0_eq (s4 : Int) (s5 : Int) (b1 : Int) (b1_1 : Int) (b1_2 : Int) : r01_Day_l0 s4 s5 b1 b1_1 b1_2 = lpK (r01_Day_l0_step s4 s5 b1 b1_1 b1_2) (fun h => r01_Day_l0 h.1 h.2.1 h.2.2.1 h.2.2.2.1 h.2.2.2.2) := loopOpt_eq _ _

def r01_Day (a0_d : (Int × (Int × Int))) : Option (Int × Int) :=
  (r01_Valid (a0_d.1, (a0_d.2.1, a0_d.2.2))).bind fun r7 =>
  cond (!r7) (
  some ((0 : Int), (1 : Int))) (
  (r01_year a0_d.1).bind fun r11 =>
  (r01_Day_l0 r11 (1 : Int) a0_d.1 a0_d.2.1 a0_d.2.2).bind fun q0 =>
  let t27 : Int := (w64 (q0.1 + q0.2.2.2))
  let t28 : Int := (w64 (t27 - (1 : Int)))
  some (t28, (0 : Int)))

def r01_Weekday (a0_day : Int) : Option (Int) :=
  let t4 : Int := (Int.tmod a0_day (7 : Int))
  let t5 : Int := (w64 (t4 + (10 : Int)))
  let t6 : Int := (Int.tmod t5 (7 : Int))
  some t6

def r01_Nth_l0_step (s0 : Int) (s1 : Int) (s2 : Int) (s3 : Int) (s10 : Int) (s12 : Int) : Option ((Int × Int × Int × Int × Int × Int) ⊕ ((Int × Int × Int × Int × Int))) :=
  (r01_Weekday s12).bind fun r40_1 =>
  cond (r40_1 != s3) (
  let t44_1 : Int := (w64 (s12 + (1 : Int)))
  some (.inl (s0, s1, s2, s3, s10, t44_1))) (
  some (.inr (s0, s1, s2, s10, s12)))

def r01_Nth_l0 (s0 : Int) (s1 : Int) (s2 : Int) (s3 : Int) (s10 : Int) (s12 : Int) : Option ((Int × Int × Int × Int × Int)) :=
  loopOpt (fun h : Int × Int × Int × Int × Int × Int => r01_Nth_l0_step h.1 h.2.1 h.2.2.1 h.2.2.2.1 h.2.2.2.2.1 h.2.2.2.2.2) (s0, s1, s2, s3, s10, s12)

theorem r01_Nth_l0_eq (s0 : Int) (s1 : Int) (s2 : Int) (s3 : Int) (s10 : Int) (s12 : Int) : r01_Nth_l0 s0 s1 s2 s3 s10 s12 = lpK (r01_Nth_l0_step s0 s1 s2 s3 s10 s12) (fun h => r01_Nth_l0 h.1 h.2.1 h.2.2.1 h.2.2.2.1 h.2.2.2.2.1 h.2.2.2.2.2) := loopOpt_eq _ _

def r01_Nth_l2_step (s0 : Int) (s1 : Int) (s10 : Int) (s12 : Int) : Option ((Int × Int × Int × Int) ⊕ (Int)) :=
  let t53_1 : Int := (w64 (s12 + (7 : Int)))
  (r01_Days s0 s1).bind fun r57_1 =>
  let t58_1 : Int := (w64 (s10 + r57_1))
  cond (decide (t53_1 < t58_1)) (
  let t61_1 : Int := (w64 (s12 + (7 : Int)))
  some (.inl (s0, s1, s10, t61_1))) (
  some (.inr s12))

def r01_Nth_l2 (s0 : Int) (s1 : Int) (s10 : Int) (s12 : Int) : Option (Int) :=
  loopOpt (fun h : Int × Int × Int × Int => r01_Nth_l2_step h.1 h.2.1 h.2.2.1 h.2.2.2) (s0, s1, s10, s12)

theorem r01_Nth_l2_eq (s0 : Int) (s1 : Int) (s10 : Int) (s12 : Int) : r01_Nth_l2 s0 s1 s10 s12 = lpK (r01_Nth_l2_step s0 s1 s10 s12) (fun h => r01_Nth_l2 h.1 h.2.1 h.2.2.1 h.2.2.2) := loopOpt_eq _ _

def r01_Nth (a0_y : Int) (a1_month : Int) (a2_week : Int) (a3_weekday : Int) : Option (Int × Int) :=
  (r01_Day (a0_y, (a1_month, (1 : Int)))).bind fun r17 =>
  let t29 : Bool := (cond (cond (r17.2 != (0 : Int)) true (decide (a2_week < (1 : Int)))) true (decide (a2_week > (5 : Int))))
  let t37 : Bool := (cond (cond t29 true (decide (a3_weekday < (0 : Int)))) true (decide (a3_weekday > (6 : Int))))
  cond t37 (
  some ((0 : Int), (1 : Int))) (
  (r01_Nth_l0 a0_y a1_month a2_week a3_weekday r17.1 r17.1).bind fun q0 =>
  cond (decide (q0.2.2.1 < (5 : Int))) (
  let t49 : Int := (w64 (q0.2.2.1 - (1 : Int)))
  let t50 : Int := (w64 ((7 : Int) * t49))
  let t51 : Int := (w64 (q0.2.2.2.2 + t50))
  some (t51, (0 : Int))) (
  (r01_Nth_l2 q0.1 q0.2.1 q0.2.2.2.1 q0.2.2.2.2).bind fun q2 =>
  some (q2, (0 : Int))))

def r04_occurrences_l4_step (s0 : (List (Int × (Int × (Int × (Int × (Int × (Int × Int)))))))) (s4 : Int) (s5 : Int) (s9 : Int) (b8 : Int) (b8_1 : Int) (l3 : (List (Int × Int))) : Option (((List (Int × (Int × (Int × (Int × (Int × (Int × Int))))))) × Int × Int × Int × Int × Int × (List (Int × Int))) ⊕ (((List (Int × (Int × (Int × (Int × (Int × (Int × Int))))))) × Int × Int × Int × Int × Int × (List (Int × Int))))) :=
  cond (decide (s9 > (0 : Int))) (
  let t71_5 : Int := (w64 (s9 - (1 : Int)))
  cond (inR t71_5 (List.length l3)) (
  let t74_3 : Int := (List.getD l3 (Int.toNat t71_5) ((0 : Int), (0 : Int))).1
  cond (decide (t74_3 > b8)) (
  let t80_3 : Int := (w64 (s9 - (1 : Int)))
  some (.inl (s0, s4, s5, t80_3, b8, b8_1, l3))) (
  some (.inr (s0, s4, s5, s9, b8, b8_1, l3)))) none) (
  some (.inr (s0, s4, s5, s9, b8, b8_1, l3)))

def r04_occurrences_l4 (s0 : (List (Int × (Int × (Int × (Int × (Int × (Int × Int)))))))) (s4 : Int) (s5 : Int) (s9 : Int) (b8 : Int) (b8_1 : Int) (l3 : (List (Int × Int))) : Option (((List (Int × (Int × (Int × (Int × (Int × (Int × Int))))))) × Int × Int × Int × Int × Int × (List (Int × Int)))) :=
  loopOpt (fun h : (List (Int × (Int × (Int × (Int × (Int × (Int × Int))))))) × Int × Int × Int × Int × Int × (List (Int × Int)) => r04_occurrences_l4_step h.1 h.2.1 h.2.2.1 h.2.2.2.1 h.2.2.2.2.1 h.2.2.2.2.2.1 h.2.2.2.2.2.2) (s0, s4, s5, s9, b8, b8_1, l3)

theorem r04_occurrences_l4_eq (s0 : (List (Int × (Int × (Int × (Int × (Int × (Int × Int)))))))) (s4 : Int) (s5 : Int) (s9 : Int) (b8 : Int) (b8_1 : Int) (l3 : (List (Int × Int))) : r04_occurrences_l4 s0 s4 s5 s9 b8 b8_1 l3 = lpK (r04_occurrences_l4_step s0 s4 s5 s9 b8 b8_1 l3) (fun h => r04_occurrences_l4 h.1 h.2.1 h.2.2.1 h.2.2.2.1 h.2.2.2.2.1 h.2.2.2.2.2.1 h.2.2.2.2.2.2) := loopOpt_eq _ _

def r04_occurrences_l2_step (s0 : (List (Int × (Int × (Int × (Int × (Int × (Int × Int)))))))) (s4 : Int) (s5 : Int) (l3 : (List (Int × Int))) : Option (((List (Int × (Int × (Int × (Int × (Int × (Int × Int))))))) × Int × Int × (List (Int × Int))) ⊕ (((List (Int × (Int × (Int × (Int × (Int × (Int × Int))))))) × Int × (List (Int × Int))))) :=
  cond (inR s4 (List.length s0)) (
  let t24_4 : (Int × (Int × (Int × (Int × (Int × (Int × Int)))))) := (List.getD s0 (Int.toNat s4) ((0 : Int), ((0 : Int), ((0 : Int), ((0 : Int), ((0 : Int), ((0 : Int), (0 : Int))))))))
  cond (decide (s5 ≤ t24_4.2.1)) (
  cond (inR s4 (List.length s0)) (
  let t34_4 : (Int × (Int × (Int × (Int × (Int × (Int × Int)))))) := (List.getD s0 (Int.toNat s4) ((0 : Int), ((0 : Int), ((0 : Int), ((0 : Int), ((0 : Int), ((0 : Int), (0 : Int))))))))
  cond (inR s4 (List.length s0)) (
  let t39_4 : (Int × (Int × (Int × (Int × (Int × (Int × Int)))))) := (List.getD s0 (Int.toNat s4) ((0 : Int), ((0 : Int), ((0 : Int), ((0 : Int), ((0 : Int), ((0 : Int), (0 : Int))))))))
  cond (inR s4 (List.length s0)) (
  let t44_4 : (Int × (Int × (Int × (Int × (Int × (Int × Int)))))) := (List.getD s0 (Int.toNat s4) ((0 : Int), ((0 : Int), ((0 : Int), ((0 : Int), ((0 : Int), ((0 : Int), (0 : Int))))))))
  (r01_Nth s5 t34_4.2.2.1 t39_4.2.2.2.1 t44_4.2.2.2.2.1).bind fun r47_4 =>
  let t51_4 : Int := (w64 (r47_4.1 * (86400 : Int)))
  cond (inR s4 (List.length s0)) (
  let t54_4 : (Int × (Int × (Int × (Int × (Int × (Int × Int)))))) := (List.getD s0 (Int.toNat s4) ((0 : Int), ((0 : Int), ((0 : Int), ((0 : Int), ((0 : Int), ((0 : Int), (0 : Int))))))))
  let t57_4 : Int := (w64 (t51_4 + t54_4.2.2.2.2.2.1))
  cond (inR s4 (List.length s0)) (
  let t60_4 : (Int × (Int × (Int × (Int × (Int × (Int × Int)))))) := (List.getD s0 (Int.toNat s4) ((0 : Int), ((0 : Int), ((0 : Int), ((0 : Int), ((0 : Int), ((0 : Int), (0 : Int))))))))
  let t65_3 : Int := (Int.ofNat (List.length l3))
  (r04_occurrences_l4 s0 s4 s5 t65_3 t57_4 t60_4.2.2.2.2.2.2 l3).bind fun q4_4 =>
  let t83_4 : (List (Int × Int)) := [(q4_4.2.2.2.2.1, q4_4.2.2.2.2.2.1)]
  cond (decide (List.length q4_4.2.2.2.2.2.2 + List.length t83_4 ≤ sizeMax)) (
  let t84_4 : (List (Int × Int)) := (q4_4.2.2.2.2.2.2 ++ t83_4)
  let t87_4 : Int := (w64 (q4_4.2.2.2.1 + (1 : Int)))
  cond (decide ((0 : Int) ≤ t87_4) && decide (t87_4 ≤ (Int.ofNat (List.length t84_4)))) (
  cond (decide ((0 : Int) ≤ q4_4.2.2.2.1) && decide (q4_4.2.2.2.1 ≤ (Int.ofNat (List.length t84_4)))) (
  let t92_8 : (List (Int × Int)) := (over t84_4 (Int.toNat t87_4) (List.drop (Int.toNat q4_4.2.2.2.1) t84_4))
  let t92_9 : Int := (Int.ofNat (min (List.length (List.drop (Int.toNat q4_4.2.2.2.1) t84_4)) (List.length t84_4 - (Int.toNat t87_4))))
  cond (inR q4_4.2.2.2.1 (List.length t92_8)) (
  let m4_4 : (List (Int × Int)) := (List.set t92_8 (Int.toNat q4_4.2.2.2.1) (q4_4.2.2.2.2.1, q4_4.2.2.2.2.2.1))
  let t29_4 : Int := (w64 (q4_4.2.2.1 + (1 : Int)))
  some (.inl (q4_4.1, q4_4.2.1, t29_4, m4_4))) none) none) none) none) none) none) none) none) none) (
  some (.inr (s0, s4, l3)))) none

def r04_occurrences_l2 (s0 : (List (Int × (Int × (Int × (Int × (Int × (Int × Int)))))))) (s4 : Int) (s5 : Int) (l3 : (List (Int × Int))) : Option (((List (Int × (Int × (Int × (Int × (Int × (Int × Int))))))) × Int × (List (Int × Int)))) :=
  loopOpt (fun h : (List (Int × (Int × (Int × (Int × (Int × (Int × Int))))))) × Int × Int × (List (Int × Int)) => r04_occurrences_l2_step h.1 h.2.1 h.2.2.1 h.2.2.2) (s0, s4, s5, l3)

theorem r04_occurrences_l2_eq (s0 : (List (Int × (Int × (Int × (Int × (Int × (Int × Int)))))))) (s4 : Int) (s5 : Int) (l3 : (List (Int × Int))) : r04_occurrences_l2 s0 s4 s5 l3 = lpK (r04_occurrences_l2_step s0 s4 s5 l3) (fun h => r04_occurrences_l2 h.1 h.2.1 h.2.2.1 h.2.2.2) := loopOpt_eq _ _

def r04_occurrences_l0_step (s0 : (List (Int × (Int × (Int × (Int × (Int × (Int × Int)))))))) (s4 : Int) (l3 : (List (Int × Int))) : Option (((List (Int × (Int × (Int × (Int × (Int × (Int × Int))))))) × Int × (List (Int × Int))) ⊕ ((List (Int × Int)))) :=
  let t12_2 : Int := (Int.ofNat (List.length s0))
  cond (decide (s4 < t12_2)) (
  cond (inR s4 (List.length s0)) (
  let t18_2 : (Int × (Int × (Int × (Int × (Int × (Int × Int)))))) := (List.getD s0 (Int.toNat s4) ((0 : Int), ((0 : Int), ((0 : Int), ((0 : Int), ((0 : Int), ((0 : Int), (0 : Int))))))))
  (r04_occurrences_l2 s0 s4 t18_2.1 l3).bind fun q2_2 =>
  let t15_2 : Int := (w64 (q2_2.2.1 + (1 : Int)))
  some (.inl (q2_2.1, t15_2, q2_2.2.2))) none) (
  some (.inr l3))

def r04_occurrences_l0 (s0 : (List (Int × (Int × (Int × (Int × (Int × (Int × Int)))))))) (s4 : Int) (l3 : (List (Int × Int))) : Option ((List (Int × Int))) :=
  loopOpt (fun h : (List (Int × (Int × (Int × (Int × (Int × (Int × Int))))))) × Int × (List (Int × Int)) => r04_occurrences_l0_step h.1 h.2.1 h.2.2) (s0, s4, l3)

theorem r04_occurrences_l0_eq (s0 : (List (Int × (Int × (Int × (Int × (Int × (Int × Int)))))))) (s4 : Int) (l3 : (List (Int × Int))) : r04_occurrences_l0 s0 s4 l3 = lpK (r04_occurrences_l0_step s0 s4 l3) (fun h => r04_occurrences_l0 h.1 h.2.1 h.2.2) := loopOpt_eq _ _

def r04_occurrences (a0_l : (List (Int × (Int × (Int × (Int × (Int × (Int × Int)))))))) : Option ((List (Int × Int))) :=
  (r04_occurrences_l0 a0_l (0 : Int) ([] : (List (Int × Int)))).bind fun q0 =>
  some q0

def r04_Transitions_l0_step (s4 : Int) (s5 : Int) (b1 : ByteArray) (b1_1 : Int) (b1_2 : (List (Int × (Int × (Int × (Int × (Int × (Int × Int)))))))) : Option ((Int × Int × ByteArray × Int × (List (Int × (Int × (Int × (Int × (Int × (Int × Int)))))))) ⊕ (Int ⊕ (Int × ByteArray × Int × (List (Int × (Int × (Int × (Int × (Int × (Int × Int)))))))))) :=
  let t22_1 : Int := (Int.ofNat (List.length b1_2))
  cond (decide (s5 < t22_1)) (
  cond (inR s5 (List.length b1_2)) (
  let t29_1 : (Int × (Int × (Int × (Int × (Int × (Int × Int)))))) := (List.getD b1_2 (Int.toNat s5) ((0 : Int), ((0 : Int), ((0 : Int), ((0 : Int), ((0 : Int), ((0 : Int), (0 : Int))))))))
  (r04_right (t29_1.1, (t29_1.2.1, (t29_1.2.2.1, (t29_1.2.2.2.1, (t29_1.2.2.2.2.1, (t29_1.2.2.2.2.2.1, t29_1.2.2.2.2.2.2))))))).bind fun r31_1 =>
  cond (!r31_1) (
  some (.inr (.inl (1 : Int)))) (
  cond (inR s5 (List.length b1_2)) (
  let t37_1 : (Int × (Int × (Int × (Int × (Int × (Int × Int)))))) := (List.getD b1_2 (Int.toNat s5) ((0 : Int), ((0 : Int), ((0 : Int), ((0 : Int), ((0 : Int), ((0 : Int), (0 : Int))))))))
  cond (inR s5 (List.length b1_2)) (
  let t43_1 : (Int × (Int × (Int × (Int × (Int × (Int × Int)))))) := (List.getD b1_2 (Int.toNat s5) ((0 : Int), ((0 : Int), ((0 : Int), ((0 : Int), ((0 : Int), ((0 : Int), (0 : Int))))))))
  let t46_1 : Int := (w64 (t37_1.2.1 - t43_1.1))
  let t47_1 : Int := (w64 (t46_1 + (1 : Int)))
  let t48_1 : Int := (w64 (s4 + t47_1))
  let t25_1 : Int := (w64 (s5 + (1 : Int)))
  some (.inl (t48_1, t25_1, b1, b1_1, b1_2))) none) none)) none) (
  some (.inr (.inr (s4, b1, b1_1, b1_2))))

def r04_Transitions_l0 (s4 : Int) (s5 : Int) (b1 : ByteArray) (b1_1 : Int) (b1_2 : (List (Int × (Int × (Int × (Int × (Int × (Int × Int)))))))) : Option (Int ⊕ (Int × ByteArray × Int × (List (Int × (Int × (Int × (Int × (Int × (Int × Int))))))))) :=
  loopOpt (fun h : Int × Int × ByteArray × Int × (List (Int × (Int × (Int × (Int × (Int × (Int × Int))))))) => r04_Transitions_l0_step h.1 h.2.1 h.2.2.1 h.2.2.2.1 h.2.2.2.2) (s4, s5, b1, b1_1, b1_2)

theorem r04_Transitions_l0_eq (s4 : Int) (s5 : Int) (b1 : ByteArray) (b1_1 : Int) (b1_2 : (List (Int × (Int × (Int × (Int × (Int × (Int × Int)))))))) : r04_Transitions_l0 s4 s5 b1 b1_1 b1_2 = lpK (r04_Transitions_l0_step s4 s5 b1 b1_1 b1_2) (fun h => r04_Transitions_l0 h.1 h.2.1 h.2.2.1 h.2.2.2.1 h.2.2.2.2) := loopOpt_eq _ _

def r04_Transitions_l2_step (s8 : Int) (s9 : Int) (l6 : (List (Int × Int))) (l7 : (List (Int × Int))) : Option ((Int × Int × (List (Int × Int)) × (List (Int × Int))) ⊕ (Int ⊕ (List (Int × Int)))) :=
  let t58_2 : Int := (Int.ofNat (List.length l7))
  cond (decide (s9 < t58_2)) (
  cond (inR s9 (List.length l7)) (
  let t66_2 : Int := (List.getD l7 (Int.toNat s9) ((0 : Int), (0 : Int))).2
  cond (t66_2 == s8) (
  let t61_5 : Int := (w64 (s9 + (1 : Int)))
  some (.inl (s8, t61_5, l6, l7))) (
  cond (inR s9 (List.length l7)) (
  let t73_2 : Int := (List.getD l7 (Int.toNat s9) ((0 : Int), (0 : Int))).1
  let t75_2 : Int := (w64 (t73_2 - s8))
  cond (inR s9 (List.length l7)) (
  let t80_2 : Int := (List.getD l7 (Int.toNat s9) ((0 : Int), (0 : Int))).2
  let t85_2 : Int := (w64 (t80_2 - s8))
  (r04_in t85_2 (-86399 : Int) (86399 : Int)).bind fun r86_2 =>
  cond (!r86_2) (
  some (.inr (.inl (6 : Int)))) (
  (r04_in t75_2 (0 : Int) (8589934592 : Int)).bind fun r91_2 =>
  cond (!r91_2) (
  some (.inr (.inl (6 : Int)))) (
  let t96_1 : Int := (Int.ofNat (List.length l6))
  cond (decide (t96_1 > (0 : Int))) (
  let t103_1 : Int := (Int.ofNat (List.length l6))
  let t104_2 : Int := (w64 (t103_1 - (1 : Int)))
  cond (inR t104_2 (List.length l6)) (
  let t107_1 : Int := (List.getD l6 (Int.toNat t104_2) ((0 : Int), (0 : Int))).1
  let t108_1 : Int := (w64 (t75_2 - t107_1))
  cond (decide (t108_1 < (604800 : Int))) (
  some (.inr (.inl (6 : Int)))) (
  let t114_3 : (List (Int × Int)) := [(t75_2, t80_2)]
  cond (decide (List.length l6 + List.length t114_3 ≤ sizeMax)) (
  let t115_3 : (List (Int × Int)) := (l6 ++ t114_3)
  let t61_6 : Int := (w64 (s9 + (1 : Int)))
  some (.inl (t80_2, t61_6, t115_3, l7))) none)) none) (
  let t114_4 : (List (Int × Int)) := [(t75_2, t80_2)]
  cond (decide (List.length l6 + List.length t114_4 ≤ sizeMax)) (
  let t115_4 : (List (Int × Int)) := (l6 ++ t114_4)
  let t61_7 : Int := (w64 (s9 + (1 : Int)))
  some (.inl (t80_2, t61_7, t115_4, l7))) none)))) none) none)) none) (
  some (.inr (.inr l6)))

def r04_Transitions_l2 (s8 : Int) (s9 : Int) (l6 : (List (Int × Int))) (l7 : (List (Int × Int))) : Option (Int ⊕ (List (Int × Int))) :=
  loopOpt (fun h : Int × Int × (List (Int × Int)) × (List (Int × Int)) => r04_Transitions_l2_step h.1 h.2.1 h.2.2.1 h.2.2.2) (s8, s9, l6, l7)

theorem r04_Transitions_l2_eq (s8 : Int) (s9 : Int) (l6 : (List (Int × Int))) (l7 : (List (Int × Int))) : r04_Transitions_l2 s8 s9 l6 l7 = lpK (r04_Transitions_l2_step s8 s9 l6 l7) (fun h => r04_Transitions_l2 h.1 h.2.1 h.2.2.1 h.2.2.2) := loopOpt_eq _ _

def r04_Transitions (a0_z : (ByteArray × (Int × (List (Int × (Int × (Int × (Int × (Int × (Int × Int)))))))))) : Option ((List (Int × Int)) × Int) :=
  (r04_in a0_z.2.1 (-64800 : Int) (64800 : Int)).bind fun r13 =>
  cond (!r13) (
  some (([] : (List (Int × Int))), (1 : Int))) (
  let t17 : Int := (Int.ofNat (List.length a0_z.2.2))
  cond (decide (t17 > (16 : Int))) (
  some (([] : (List (Int × Int))), (5 : Int))) (
  (r04_Transitions_l0 (0 : Int) (0 : Int) a0_z.1 a0_z.2.1 a0_z.2.2).bind fun q0 =>
  sumC q0 (fun a =>
  some (([] : (List (Int × Int))), a)) (fun b =>
  cond (decide (b.1 > (640 : Int))) (
  some (([] : (List (Int × Int))), (5 : Int))) (
  (r04_occurrences b.2.2.2).bind fun r53 =>
  (r04_Transitions_l2 b.2.2.1 (0 : Int) ([] : (List (Int × Int))) r53).bind fun q2 =>
  sumC q2 (fun a_1 =>
  some (([] : (List (Int × Int))), a_1)) (fun b_1 =>
  some (b_1, (0 : Int)))))))

def law04_same_l0_step (s0 : (List (Int × Int))) (s1 : (List (Int × Int))) (s12 : Int) (s13 : Int) : Option (((List (Int × Int)) × (List (Int × Int)) × Int × Int) ⊕ (Bool ⊕ Unit)) :=
  cond (decide (s13 < s12)) (
  cond (inR s13 (List.length s0)) (
  let t18_1 : (Int × Int) := (List.getD s0 (Int.toNat s13) ((0 : Int), (0 : Int)))
  cond (inR s13 (List.length s1)) (
  let t22_1 : (Int × Int) := (List.getD s1 (Int.toNat s13) ((0 : Int), (0 : Int)))
  cond (!((t18_1.1 == t22_1.1) && (t18_1.2 == t22_1.2))) (
  some (.inr (.inl false))) (
  let t25_1 : Int := (w64 (s13 + (1 : Int)))
  some (.inl (s0, s1, s12, t25_1)))) none) none) (
  some (.inr (.inr ())))

def law04_same_l0 (s0 : (List (Int × Int))) (s1 : (List (Int × Int))) (s12 : Int) (s13 : Int) : Option (Bool ⊕ Unit) :=
  loopOpt (fun h : (List (Int × Int)) × (List (Int × Int)) × Int × Int => law04_same_l0_step h.1 h.2.1 h.2.2.1 h.2.2.2) (s0, s1, s12, s13)

theorem law04_same_l0_eq (s0 : (List (Int × Int))) (s1 : (List (Int × Int))) (s12 : Int) (s13 : Int) : law04_same_l0 s0 s1 s12 s13 = lpK (law04_same_l0_step s0 s1 s12 s13) (fun h => law04_same_l0 h.1 h.2.1 h.2.2.1 h.2.2.2) := loopOpt_eq _ _

def law04_same (a0_a : (List (Int × Int))) (a1_b : (List (Int × Int))) : Option (Bool) :=
  let t7 : Int := (Int.ofNat (List.length a0_a))
  let t9 : Int := (Int.ofNat (List.length a1_b))
  cond (t7 != t9) (
  some false) (
  let t12 : Int := (Int.ofNat (List.length a0_a))
  (law04_same_l0 a0_a a1_b t12 (0 : Int)).bind fun q0 =>
  sumC q0 (fun a =>
  some a) (fun b =>
  some true))

def zone_Check (a0_z : (ByteArray × (Int × (List (Int × (Int × (Int × (Int × (Int × (Int × Int)))))))))) : Option (Int) :=
  (zone_Transitions (a0_z.1, (a0_z.2.1, a0_z.2.2))).bind fun r7 =>
  some r7.2

def r04_Check (a0_z : (ByteArray × (Int × (List (Int × (Int × (Int × (Int × (Int × (Int × Int)))))))))) : Option (Int) :=
  (r04_Transitions (a0_z.1, (a0_z.2.1, a0_z.2.2))).bind fun r7 =>
  some r7.2

def zone_Table_Last (a0_b : (Int × (List (Int × Int)))) : Option (Int) :=
  let t5 : Int := (Int.ofNat (List.length a0_b.2))
  cond (t5 == (0 : Int)) (
  some (0 : Int)) (
  let t11 : Int := (Int.ofNat (List.length a0_b.2))
  let t12 : Int := (w64 (t11 - (1 : Int)))
  cond (inR t12 (List.length a0_b.2)) (
  let t13 : (Int × Int) := (List.getD a0_b.2 (Int.toNat t12) ((0 : Int), (0 : Int)))
  some t13.1) none)

def zone_Horizon (a0_z : (ByteArray × (Int × (List (Int × (Int × (Int × (Int × (Int × (Int × Int)))))))))) : Option (Int) :=
  (zone_Of (a0_z.1, (a0_z.2.1, a0_z.2.2))).bind fun r7 =>
  cond (r7.2 != (0 : Int)) (
  some (0 : Int)) (
  (zone_Table_Last (r7.1.1, r7.1.2)).bind fun r13 =>
  some r13)

def r04_Horizon (a0_z : (ByteArray × (Int × (List (Int × (Int × (Int × (Int × (Int × (Int × Int)))))))))) : Option (Int) :=
  (r04_Transitions (a0_z.1, (a0_z.2.1, a0_z.2.2))).bind fun r7 =>
  let t14 : Int := (Int.ofNat (List.length r7.1))
  cond (cond (r7.2 != (0 : Int)) true (t14 == (0 : Int))) (
  some (0 : Int)) (
  let t19 : Int := (Int.ofNat (List.length r7.1))
  let t20 : Int := (w64 (t19 - (1 : Int)))
  cond (inR t20 (List.length r7.1)) (
  let t23 : Int := (List.getD r7.1 (Int.toNat t20) ((0 : Int), (0 : Int))).1
  some t23) none)

def made_Mod (a0_x : Int) (a1_n : Int) : Option (Int) :=
  cond (!(a1_n == 0)) (
  let t7 : Int := (Int.tmod a0_x a1_n)
  let t9 : Int := (w64 (t7 + a1_n))
  cond (!(a1_n == 0)) (
  let t11 : Int := (Int.tmod t9 a1_n)
  some t11) none) none

def zone_OffsetAt (a0_z : (ByteArray × (Int × (List (Int × (Int × (Int × (Int × (Int × (Int × Int)))))))))) (a1_t : Int) : Option (Int × Int) :=
  (zone_open (a0_z.1, (a0_z.2.1, a0_z.2.2)) a1_t).bind fun r11 =>
  cond (r11.2 != (0 : Int)) (
  some ((0 : Int), r11.2)) (
  (zone_Table_Offset (r11.1.1, r11.1.2) a1_t).bind fun r19 =>
  some (r19, (0 : Int)))

def r04_offset_l0_step (s1 : (List (Int × Int))) (s2 : Int) (s7 : Int) (s8 : Int) : Option (((List (Int × Int)) × Int × Int × Int) ⊕ (Int)) :=
  let t13_1 : Int := (Int.ofNat (List.length s1))
  cond ((inR s8 (List.length s1)) || !(decide (s8 < t13_1))) (
  let t18_1 : (Int × Int) := (List.getD s1 (Int.toNat s8) ((0 : Int), (0 : Int)))
  cond (cond (decide (s8 < t13_1)) (decide (t18_1.1 ≤ s2)) false) (
  cond (inR s8 (List.length s1)) (
  let t28_1 : (Int × Int) := (List.getD s1 (Int.toNat s8) ((0 : Int), (0 : Int)))
  let t25_1 : Int := (w64 (s8 + (1 : Int)))
  some (.inl (s1, s2, t28_1.2, t25_1))) none) (
  some (.inr s7))) none

def r04_offset_l0 (s1 : (List (Int × Int))) (s2 : Int) (s7 : Int) (s8 : Int) : Option (Int) :=
  loopOpt (fun h : (List (Int × Int)) × Int × Int × Int => r04_offset_l0_step h.1 h.2.1 h.2.2.1 h.2.2.2) (s1, s2, s7, s8)

theorem r04_offset_l0_eq (s1 : (List (Int × Int))) (s2 : Int) (s7 : Int) (s8 : Int) : r04_offset_l0 s1 s2 s7 s8 = lpK (r04_offset_l0_step s1 s2 s7 s8) (fun h => r04_offset_l0 h.1 h.2.1 h.2.2.1 h.2.2.2) := loopOpt_eq _ _

def r04_offset (a0_z : (ByteArray × (Int × (List (Int × (Int × (Int × (Int × (Int × (Int × Int)))))))))) (a1_l : (List (Int × Int))) (a2_t : Int) : Option (Int) :=
  (r04_offset_l0 a1_l a2_t a0_z.2.1 (0 : Int)).bind fun q0 =>
  some q0

def r04_OffsetAt (a0_z : (ByteArray × (Int × (List (Int × (Int × (Int × (Int × (Int × (Int × Int)))))))))) (a1_t : Int) : Option (Int × Int) :=
  (r04_Transitions (a0_z.1, (a0_z.2.1, a0_z.2.2))).bind fun r10 =>
  cond (r10.2 != (0 : Int)) (
  some ((0 : Int), (8 : Int))) (
  (r04_in a1_t (0 : Int) (8589934592 : Int)).bind fun r16 =>
  cond (!r16) (
  some ((0 : Int), (1 : Int))) (
  (r04_offset (a0_z.1, (a0_z.2.1, a0_z.2.2)) r10.1 a1_t).bind fun r21 =>
  some (r21, (0 : Int))))

def r04_local (a0_t : Int) (a1_offset : Int) : Option ((Int × Int)) :=
  let t8 : Int := (w64 (a0_t + a1_offset))
  let t9 : Int := (w64 (t8 + (864000 : Int)))
  let t11 : Int := (w64 (Int.tdiv t9 (86400 : Int)))
  let t12 : Int := (w64 (t11 - (10 : Int)))
  let t14 : Int := (Int.tmod t9 (86400 : Int))
  some (t12, t14)

def r04_ToLocal (a0_z : (ByteArray × (Int × (List (Int × (Int × (Int × (Int × (Int × (Int × Int)))))))))) (a1_t : Int) : Option ((Int × Int) × Int) :=
  (r04_OffsetAt (a0_z.1, (a0_z.2.1, a0_z.2.2)) a1_t).bind fun r11 =>
  cond (r11.2 != (0 : Int)) (
  some (((0 : Int), (0 : Int)), r11.2)) (
  (r04_local a1_t r11.1).bind fun r20 =>
  some ((r20.1, r20.2), (0 : Int)))

def r04_small (a0_day : Int) : Option (Bool) :=
  (r04_in a0_day (-2 : Int) (99422 : Int)).bind fun r4 =>
  some r4

def r04_FromLocal_l0_step (s9 : Int) (b2 : ByteArray) (b2_1 : Int) (b2_2 : (List (Int × (Int × (Int × (Int × (Int × (Int × Int)))))))) (b3 : Int) (b3_1 : Int) (l6 : (List (Int × Int))) (l8 : (List Int)) : Option ((Int × ByteArray × Int × (List (Int × (Int × (Int × (Int × (Int × (Int × Int))))))) × Int × Int × (List (Int × Int)) × (List Int)) ⊕ ((List Int))) :=
  let t31_2 : Int := (Int.ofNat (List.length l6))
  cond (decide (s9 < t31_2)) (
  cond (decide (s9 ≥ (0 : Int))) (
  cond (inR s9 (List.length l6)) (
  let t43_2 : Int := (List.getD l6 (Int.toNat s9) ((0 : Int), (0 : Int))).2
  cond (inR s9 (List.length l6)) (
  let t48_2 : Int := (List.getD l6 (Int.toNat s9) ((0 : Int), (0 : Int))).1
  let t50_4 : Int := (w64 (s9 + (1 : Int)))
  let t52_4 : Int := (Int.ofNat (List.length l6))
  cond (decide (t50_4 < t52_4)) (
  let t56_4 : Int := (w64 (s9 + (1 : Int)))
  cond (inR t56_4 (List.length l6)) (
  let t59_4 : Int := (List.getD l6 (Int.toNat t56_4) ((0 : Int), (0 : Int))).1
  let t62_8 : Int := (w64 (b3 * (86400 : Int)))
  let t65_8 : Int := (w64 (t62_8 + b3_1))
  let t67_8 : Int := (w64 (t65_8 - t43_2))
  cond (cond (decide (t67_8 ≥ t48_2)) (decide (t67_8 < t59_4)) false) (
  cond (decide (List.length l8 + List.length [t67_8] ≤ sizeMax)) (
  let t79_8 : (List Int) := (l8 ++ [t67_8])
  let t34_16 : Int := (w64 (s9 + (1 : Int)))
  some (.inl (t34_16, b2, b2_1, b2_2, b3, b3_1, l6, t79_8))) none) (
  let t34_17 : Int := (w64 (s9 + (1 : Int)))
  some (.inl (t34_17, b2, b2_1, b2_2, b3, b3_1, l6, l8)))) none) (
  let t62_9 : Int := (w64 (b3 * (86400 : Int)))
  let t65_9 : Int := (w64 (t62_9 + b3_1))
  let t67_9 : Int := (w64 (t65_9 - t43_2))
  cond (cond (decide (t67_9 ≥ t48_2)) (decide (t67_9 < (8589934593 : Int))) false) (
  cond (decide (List.length l8 + List.length [t67_9] ≤ sizeMax)) (
  let t79_9 : (List Int) := (l8 ++ [t67_9])
  let t34_18 : Int := (w64 (s9 + (1 : Int)))
  some (.inl (t34_18, b2, b2_1, b2_2, b3, b3_1, l6, t79_9))) none) (
  let t34_19 : Int := (w64 (s9 + (1 : Int)))
  some (.inl (t34_19, b2, b2_1, b2_2, b3, b3_1, l6, l8))))) none) none) (
  let t50_5 : Int := (w64 (s9 + (1 : Int)))
  let t52_5 : Int := (Int.ofNat (List.length l6))
  cond (decide (t50_5 < t52_5)) (
  let t56_5 : Int := (w64 (s9 + (1 : Int)))
  cond (inR t56_5 (List.length l6)) (
  let t59_5 : Int := (List.getD l6 (Int.toNat t56_5) ((0 : Int), (0 : Int))).1
  let t62_10 : Int := (w64 (b3 * (86400 : Int)))
  let t65_10 : Int := (w64 (t62_10 + b3_1))
  let t67_10 : Int := (w64 (t65_10 - b2_1))
  cond (cond (decide (t67_10 ≥ (0 : Int))) (decide (t67_10 < t59_5)) false) (
  cond (decide (List.length l8 + List.length [t67_10] ≤ sizeMax)) (
  let t79_10 : (List Int) := (l8 ++ [t67_10])
  let t34_20 : Int := (w64 (s9 + (1 : Int)))
  some (.inl (t34_20, b2, b2_1, b2_2, b3, b3_1, l6, t79_10))) none) (
  let t34_21 : Int := (w64 (s9 + (1 : Int)))
  some (.inl (t34_21, b2, b2_1, b2_2, b3, b3_1, l6, l8)))) none) (
  let t62_11 : Int := (w64 (b3 * (86400 : Int)))
  let t65_11 : Int := (w64 (t62_11 + b3_1))
  let t67_11 : Int := (w64 (t65_11 - b2_1))
  cond (cond (decide (t67_11 ≥ (0 : Int))) (decide (t67_11 < (8589934593 : Int))) false) (
  cond (decide (List.length l8 + List.length [t67_11] ≤ sizeMax)) (
  let t79_11 : (List Int) := (l8 ++ [t67_11])
  let t34_22 : Int := (w64 (s9 + (1 : Int)))
  some (.inl (t34_22, b2, b2_1, b2_2, b3, b3_1, l6, t79_11))) none) (
  let t34_23 : Int := (w64 (s9 + (1 : Int)))
  some (.inl (t34_23, b2, b2_1, b2_2, b3, b3_1, l6, l8)))))) (
  some (.inr l8))

def r04_FromLocal_l0 (s9 : Int) (b2 : ByteArray) (b2_1 : Int) (b2_2 : (List (Int × (Int × (Int × (Int × (Int × (Int × Int)))))))) (b3 : Int) (b3_1 : Int) (l6 : (List (Int × Int))) (l8 : (List Int)) : Option ((List Int)) :=
  loopOpt (fun h : Int × ByteArray × Int × (List (Int × (Int × (Int × (Int × (Int × (Int × Int))))))) × Int × Int × (List (Int × Int)) × (List Int) => r04_FromLocal_l0_step h.1 h.2.1 h.2.2.1 h.2.2.2.1 h.2.2.2.2.1 h.2.2.2.2.2.1 h.2.2.2.2.2.2.1 h.2.2.2.2.2.2.2) (s9, b2, b2_1, b2_2, b3, b3_1, l6, l8)

theorem r04_FromLocal_l0_eq (s9 : Int) (b2 : ByteArray) (b2_1 : Int) (b2_2 : (List (Int × (Int × (Int × (Int × (Int × (Int × Int)))))))) (b3 : Int) (b3_1 : Int) (l6 : (List (Int × Int))) (l8 : (List Int)) : r04_FromLocal_l0 s9 b2 b2_1 b2_2 b3 b3_1 l6 l8 = lpK (r04_FromLocal_l0_step s9 b2 b2_1 b2_2 b3 b3_1 l6 l8) (fun h => r04_FromLocal_l0 h.1 h.2.1 h.2.2.1 h.2.2.2.1 h.2.2.2.2.1 h.2.2.2.2.2.1 h.2.2.2.2.2.2.1 h.2.2.2.2.2.2.2) := loopOpt_eq _ _

def r04_FromLocal (a0_z : (ByteArray × (Int × (List (Int × (Int × (Int × (Int × (Int × (Int × Int)))))))))) (a1_x : (Int × Int)) : Option ((List Int) × Int) :=
  (r04_Transitions (a0_z.1, (a0_z.2.1, a0_z.2.2))).bind fun r16 =>
  cond (r16.2 != (0 : Int)) (
  some (([] : (List Int)), (8 : Int))) (
  (r04_in a1_x.2 (0 : Int) (86399 : Int)).bind fun r23 =>
  cond (!r23) (
  some (([] : (List Int)), (1 : Int))) (
  (r04_small a1_x.1).bind fun r27 =>
  cond (!r27) (
  some (([] : (List Int)), (0 : Int))) (
  (r04_FromLocal_l0 (-1 : Int) a0_z.1 a0_z.2.1 a0_z.2.2 a1_x.1 a1_x.2 r16.1 ([] : (List Int))).bind fun q0 =>
  some (q0, (0 : Int)))))

def r04_First_l0_step (s8 : Int) (b2 : ByteArray) (b2_1 : Int) (b2_2 : (List (Int × (Int × (Int × (Int × (Int × (Int × Int)))))))) (b3 : Int) (b3_1 : Int) (l6 : (List (Int × Int))) : Option ((Int × ByteArray × Int × (List (Int × (Int × (Int × (Int × (Int × (Int × Int))))))) × Int × Int × (List (Int × Int))) ⊕ ((Int × Int) ⊕ Unit)) :=
  let t33_1 : Int := (Int.ofNat (List.length l6))
  cond (decide (s8 < t33_1)) (
  cond (decide (s8 ≥ (0 : Int))) (
  cond (inR s8 (List.length l6)) (
  let t45_1 : Int := (List.getD l6 (Int.toNat s8) ((0 : Int), (0 : Int))).2
  cond (inR s8 (List.length l6)) (
  let t50_1 : Int := (List.getD l6 (Int.toNat s8) ((0 : Int), (0 : Int))).1
  let t52_2 : Int := (w64 (s8 + (1 : Int)))
  let t54_2 : Int := (Int.ofNat (List.length l6))
  cond (decide (t52_2 < t54_2)) (
  let t58_2 : Int := (w64 (s8 + (1 : Int)))
  cond (inR t58_2 (List.length l6)) (
  let t61_2 : Int := (List.getD l6 (Int.toNat t58_2) ((0 : Int), (0 : Int))).1
  let t65_4 : Int := (w64 (b3 * (86400 : Int)))
  let t68_4 : Int := (w64 (t65_4 + b3_1))
  let t70_4 : Int := (w64 (t68_4 - t45_1))
  let t71_4 : Int := (if t70_4 > t50_1 then t70_4 else t50_1 : Int)
  cond (decide (t71_4 < t61_2)) (
  some (.inr (.inl (t71_4, (0 : Int))))) (
  let t36_4 : Int := (w64 (s8 + (1 : Int)))
  some (.inl (t36_4, b2, b2_1, b2_2, b3, b3_1, l6)))) none) (
  let t65_5 : Int := (w64 (b3 * (86400 : Int)))
  let t68_5 : Int := (w64 (t65_5 + b3_1))
  let t70_5 : Int := (w64 (t68_5 - t45_1))
  let t71_5 : Int := (if t70_5 > t50_1 then t70_5 else t50_1 : Int)
  cond (decide (t71_5 < (8589934593 : Int))) (
  some (.inr (.inl (t71_5, (0 : Int))))) (
  let t36_5 : Int := (w64 (s8 + (1 : Int)))
  some (.inl (t36_5, b2, b2_1, b2_2, b3, b3_1, l6))))) none) none) (
  let t52_3 : Int := (w64 (s8 + (1 : Int)))
  let t54_3 : Int := (Int.ofNat (List.length l6))
  cond (decide (t52_3 < t54_3)) (
  let t58_3 : Int := (w64 (s8 + (1 : Int)))
  cond (inR t58_3 (List.length l6)) (
  let t61_3 : Int := (List.getD l6 (Int.toNat t58_3) ((0 : Int), (0 : Int))).1
  let t65_6 : Int := (w64 (b3 * (86400 : Int)))
  let t68_6 : Int := (w64 (t65_6 + b3_1))
  let t70_6 : Int := (w64 (t68_6 - b2_1))
  let t71_6 : Int := (if t70_6 > (0 : Int) then t70_6 else (0 : Int) : Int)
  cond (decide (t71_6 < t61_3)) (
  some (.inr (.inl (t71_6, (0 : Int))))) (
  let t36_6 : Int := (w64 (s8 + (1 : Int)))
  some (.inl (t36_6, b2, b2_1, b2_2, b3, b3_1, l6)))) none) (
  let t65_7 : Int := (w64 (b3 * (86400 : Int)))
  let t68_7 : Int := (w64 (t65_7 + b3_1))
  let t70_7 : Int := (w64 (t68_7 - b2_1))
  let t71_7 : Int := (if t70_7 > (0 : Int) then t70_7 else (0 : Int) : Int)
  cond (decide (t71_7 < (8589934593 : Int))) (
  some (.inr (.inl (t71_7, (0 : Int))))) (
  let t36_7 : Int := (w64 (s8 + (1 : Int)))
  some (.inl (t36_7, b2, b2_1, b2_2, b3, b3_1, l6)))))) (
  some (.inr (.inr ())))

def r04_First_l0 (s8 : Int) (b2 : ByteArray) (b2_1 : Int) (b2_2 : (List (Int × (Int × (Int × (Int × (Int × (Int × Int)))))))) (b3 : Int) (b3_1 : Int) (l6 : (List (Int × Int))) : Option ((Int × Int) ⊕ Unit) :=
  loopOpt (fun h : Int × ByteArray × Int × (List (Int × (Int × (Int × (Int × (Int × (Int × Int))))))) × Int × Int × (List (Int × Int)) => r04_First_l0_step h.1 h.2.1 h.2.2.1 h.2.2.2.1 h.2.2.2.2.1 h.2.2.2.2.2.1 h.2.2.2.2.2.2) (s8, b2, b2_1, b2_2, b3, b3_1, l6)

theorem r04_First_l0_eq (s8 : Int) (b2 : ByteArray) (b2_1 : Int) (b2_2 : (List (Int × (Int × (Int × (Int × (Int × (Int × Int)))))))) (b3 : Int) (b3_1 : Int) (l6 : (List (Int × Int))) : r04_First_l0 s8 b2 b2_1 b2_2 b3 b3_1 l6 = lpK (r04_First_l0_step s8 b2 b2_1 b2_2 b3 b3_1 l6) (fun h => r04_First_l0 h.1 h.2.1 h.2.2.1 h.2.2.2.1 h.2.2.2.2.1 h.2.2.2.2.2.1 h.2.2.2.2.2.2) := loopOpt_eq _ _

def r04_First (a0_z : (ByteArray × (Int × (List (Int × (Int × (Int × (Int × (Int × (Int × Int)))))))))) (a1_x : (Int × Int)) : Option (Int × Int) :=
  (r04_Transitions (a0_z.1, (a0_z.2.1, a0_z.2.2))).bind fun r15 =>
  cond (r15.2 != (0 : Int)) (
  some ((0 : Int), (8 : Int))) (
  (r04_in a1_x.2 (0 : Int) (86399 : Int)).bind fun r22 =>
  cond (!r22) (
  some ((0 : Int), (1 : Int))) (
  cond (decide (a1_x.1 < (-2 : Int))) (
  some ((0 : Int), (0 : Int))) (
  (r04_small a1_x.1).bind fun r29 =>
  cond (!r29) (
  some ((0 : Int), (10 : Int))) (
  (r04_First_l0 (-1 : Int) a0_z.1 a0_z.2.1 a0_z.2.2 a1_x.1 a1_x.2 r15.1).bind fun q0 =>
  sumC q0 (fun a =>
  some (a.1, a.2)) (fun b =>
  some ((0 : Int), (10 : Int)))))))

def law04_ints_l0_step (s0 : (List Int)) (s1 : (List Int)) (s12 : Int) (s13 : Int) : Option (((List Int) × (List Int) × Int × Int) ⊕ (Bool ⊕ Unit)) :=
  cond (decide (s13 < s12)) (
  cond (inR s13 (List.length s0)) (
  let t18_1 : Int := (List.getD s0 (Int.toNat s13) (0 : Int))
  cond (inR s13 (List.length s1)) (
  let t22_1 : Int := (List.getD s1 (Int.toNat s13) (0 : Int))
  cond (t18_1 != t22_1) (
  some (.inr (.inl false))) (
  let t25_1 : Int := (w64 (s13 + (1 : Int)))
  some (.inl (s0, s1, s12, t25_1)))) none) none) (
  some (.inr (.inr ())))

def law04_ints_l0 (s0 : (List Int)) (s1 : (List Int)) (s12 : Int) (s13 : Int) : Option (Bool ⊕ Unit) :=
  loopOpt (fun h : (List Int) × (List Int) × Int × Int => law04_ints_l0_step h.1 h.2.1 h.2.2.1 h.2.2.2) (s0, s1, s12, s13)

theorem law04_ints_l0_eq (s0 : (List Int)) (s1 : (List Int)) (s12 : Int) (s13 : Int) : law04_ints_l0 s0 s1 s12 s13 = lpK (law04_ints_l0_step s0 s1 s12 s13) (fun h => law04_ints_l0 h.1 h.2.1 h.2.2.1 h.2.2.2) := loopOpt_eq _ _

def law04_ints (a0_a : (List Int)) (a1_b : (List Int)) : Option (Bool) :=
  let t7 : Int := (Int.ofNat (List.length a0_a))
  let t9 : Int := (Int.ofNat (List.length a1_b))
  cond (t7 != t9) (
  some false) (
  let t12 : Int := (Int.ofNat (List.length a0_a))
  (law04_ints_l0 a0_a a1_b t12 (0 : Int)).bind fun q0 =>
  sumC q0 (fun a =>
  some a) (fun b =>
  some true))

def law04_ZoneExact_l4_step (s2 : Int) (s3 : Int) (s4 : Int) (s60 : (List (ByteArray × (Int × (List (Int × (Int × (Int × (Int × (Int × (Int × Int))))))))))) (s61 : Int) (s119 : (List Int)) (s120 : Int) (s179 : (List (Int × Int))) (s180 : Int) (b14 : ByteArray) (b14_1 : Int) (b14_2 : (List (Int × (Int × (Int × (Int × (Int × (Int × Int)))))))) : Option ((Int × Int × Int × (List (ByteArray × (Int × (List (Int × (Int × (Int × (Int × (Int × (Int × Int)))))))))) × Int × (List Int) × Int × (List (Int × Int)) × Int × ByteArray × Int × (List (Int × (Int × (Int × (Int × (Int × (Int × Int)))))))) ⊕ (Bool ⊕ (Int × Int × Int × (List (ByteArray × (Int × (List (Int × (Int × (Int × (Int × (Int × (Int × Int)))))))))) × Int × (List Int) × Int × ByteArray × Int × (List (Int × (Int × (Int × (Int × (Int × (Int × Int)))))))))) :=
  cond (decide (s180 < (3 : Int))) (
  cond (inR s180 3) (
  let t182_1 : (Int × Int) := (List.getD s179 (Int.toNat s180) ((0 : Int), (0 : Int)))
  (zone_FromLocal (b14, (b14_1, b14_2)) (t182_1.1, t182_1.2)).bind fun r186_1 =>
  (r04_FromLocal (b14, (b14_1, b14_2)) (t182_1.1, t182_1.2)).bind fun r192_1 =>
  (zone_First (b14, (b14_1, b14_2)) (t182_1.1, t182_1.2)).bind fun r198_1 =>
  (r04_First (b14, (b14_1, b14_2)) (t182_1.1, t182_1.2)).bind fun r204_1 =>
  (law04_ints r186_1.1 r192_1.1).bind fun r209_1 =>
  let t225_1 : Bool := (cond (cond (cond (!r209_1) true (r186_1.2 != r192_1.2)) true (r198_1.1 != r204_1.1)) true (r198_1.2 != r204_1.2))
  cond t225_1 (
  some (.inr (.inl false))) (
  let t226_1 : Int := (w64 (s180 + (1 : Int)))
  some (.inl (s2, s3, s4, s60, s61, s119, s120, s179, t226_1, b14, b14_1, b14_2)))) none) (
  some (.inr (.inr (s2, s3, s4, s60, s61, s119, s120, b14, b14_1, b14_2))))

def law04_ZoneExact_l4 (s2 : Int) (s3 : Int) (s4 : Int) (s60 : (List (ByteArray × (Int × (List (Int × (Int × (Int × (Int × (Int × (Int × Int))))))))))) (s61 : Int) (s119 : (List Int)) (s120 : Int) (s179 : (List (Int × Int))) (s180 : Int) (b14 : ByteArray) (b14_1 : Int) (b14_2 : (List (Int × (Int × (Int × (Int × (Int × (Int × Int)))))))) : Option (Bool ⊕ (Int × Int × Int × (List (ByteArray × (Int × (List (Int × (Int × (Int × (Int × (Int × (Int × Int)))))))))) × Int × (List Int) × Int × ByteArray × Int × (List (Int × (Int × (Int × (Int × (Int × (Int × Int))))))))) :=
  loopOpt (fun h : Int × Int × Int × (List (ByteArray × (Int × (List (Int × (Int × (Int × (Int × (Int × (Int × Int)))))))))) × Int × (List Int) × Int × (List (Int × Int)) × Int × ByteArray × Int × (List (Int × (Int × (Int × (Int × (Int × (Int × Int))))))) => law04_ZoneExact_l4_step h.1 h.2.1 h.2.2.1 h.2.2.2.1 h.2.2.2.2.1 h.2.2.2.2.2.1 h.2.2.2.2.2.2.1 h.2.2.2.2.2.2.2.1 h.2.2.2.2.2.2.2.2.1 h.2.2.2.2.2.2.2.2.2.1 h.2.2.2.2.2.2.2.2.2.2.1 h.2.2.2.2.2.2.2.2.2.2.2) (s2, s3, s4, s60, s61, s119, s120, s179, s180, b14, b14_1, b14_2)

theorem law04_ZoneExact_l4_eq (s2 : Int) (s3 : Int) (s4 : Int) (s60 : (List (ByteArray × (Int × (List (Int × (Int × (Int × (Int × (Int × (Int × Int))))))))))) (s61 : Int) (s119 : (List Int)) (s120 : Int) (s179 : (List (Int × Int))) (s180 : Int) (b14 : ByteArray) (b14_1 : Int) (b14_2 : (List (Int × (Int × (Int × (Int × (Int × (Int × Int)))))))) : law04_ZoneExact_l4 s2 s3 s4 s60 s61 s119 s120 s179 s180 b14 b14_1 b14_2 = lpK (law04_ZoneExact_l4_step s2 s3 s4 s60 s61 s119 s120 s179 s180 b14 b14_1 b14_2) (fun h => law04_ZoneExact_l4 h.1 h.2.1 h.2.2.1 h.2.2.2.1 h.2.2.2.2.1 h.2.2.2.2.2.1 h.2.2.2.2.2.2.1 h.2.2.2.2.2.2.2.1 h.2.2.2.2.2.2.2.2.1 h.2.2.2.2.2.2.2.2.2.1 h.2.2.2.2.2.2.2.2.2.2.1 h.2.2.2.2.2.2.2.2.2.2.2) := loopOpt_eq _ _

def law04_ZoneExact_l2_step (s2 : Int) (s3 : Int) (s4 : Int) (s60 : (List (ByteArray × (Int × (List (Int × (Int × (Int × (Int × (Int × (Int × Int))))))))))) (s61 : Int) (s119 : (List Int)) (s120 : Int) (b14 : ByteArray) (b14_1 : Int) (b14_2 : (List (Int × (Int × (Int × (Int × (Int × (Int × Int)))))))) : Option ((Int × Int × Int × (List (ByteArray × (Int × (List (Int × (Int × (Int × (Int × (Int × (Int × Int)))))))))) × Int × (List Int) × Int × ByteArray × Int × (List (Int × (Int × (Int × (Int × (Int × (Int × Int)))))))) ⊕ (Bool ⊕ (Int × Int × Int × (List (ByteArray × (Int × (List (Int × (Int × (Int × (Int × (Int × (Int × Int)))))))))) × Int))) :=
  cond (decide (s120 < (5 : Int))) (
  cond (inR s120 5) (
  let t122_1 : Int := (List.getD s119 (Int.toNat s120) (0 : Int))
  (zone_OffsetAt (b14, (b14_1, b14_2)) t122_1).bind fun r126_1 =>
  (r04_OffsetAt (b14, (b14_1, b14_2)) t122_1).bind fun r132_1 =>
  (zone_ToLocal (b14, (b14_1, b14_2)) t122_1).bind fun r138_1 =>
  (r04_ToLocal (b14, (b14_1, b14_2)) t122_1).bind fun r144_1 =>
  let t159_1 : Bool := (cond (cond (r126_1.1 != r132_1.1) true (r126_1.2 != r132_1.2)) true (!((r138_1.1.1 == r144_1.1.1) && (r138_1.1.2 == r144_1.1.2))))
  cond (cond t159_1 true (r138_1.2 != r144_1.2)) (
  some (.inr (.inl false))) (
  (made_Mod s3 (3 : Int)).bind fun r172_1 =>
  let t173_1 : Int := (w64 (r144_1.1.1 + r172_1))
  let t174_1 : Int := (w64 (t173_1 - (1 : Int)))
  (made_Mod s4 (86402 : Int)).bind fun r176_1 =>
  let t177_1 : Int := (w64 (r176_1 - (1 : Int)))
  let t179_1 : (List (Int × Int)) := [(r144_1.1.1, r144_1.1.2), (s3, s4), (t174_1, t177_1)]
  (law04_ZoneExact_l4 s2 s3 s4 s60 s61 s119 s120 t179_1 (0 : Int) b14 b14_1 b14_2).bind fun q4_1 =>
  sumC q4_1 (fun a_1 =>
  some (.inr (.inl a_1))) (fun b_1 =>
  let t227_1 : Int := (w64 (b_1.2.2.2.2.2.2.1 + (1 : Int)))
  some (.inl (b_1.1, b_1.2.1, b_1.2.2.1, b_1.2.2.2.1, b_1.2.2.2.2.1, b_1.2.2.2.2.2.1, t227_1, b_1.2.2.2.2.2.2.2.1, b_1.2.2.2.2.2.2.2.2.1, b_1.2.2.2.2.2.2.2.2.2))))) none) (
  some (.inr (.inr (s2, s3, s4, s60, s61))))

def law04_ZoneExact_l2 (s2 : Int) (s3 : Int) (s4 : Int) (s60 : (List (ByteArray × (Int × (List (Int × (Int × (Int × (Int × (Int × (Int × Int))))))))))) (s61 : Int) (s119 : (List Int)) (s120 : Int) (b14 : ByteArray) (b14_1 : Int) (b14_2 : (List (Int × (Int × (Int × (Int × (Int × (Int × Int)))))))) : Option (Bool ⊕ (Int × Int × Int × (List (ByteArray × (Int × (List (Int × (Int × (Int × (Int × (Int × (Int × Int)))))))))) × Int)) :=
  loopOpt (fun h : Int × Int × Int × (List (ByteArray × (Int × (List (Int × (Int × (Int × (Int × (Int × (Int × Int)))))))))) × Int × (List Int) × Int × ByteArray × Int × (List (Int × (Int × (Int × (Int × (Int × (Int × Int))))))) => law04_ZoneExact_l2_step h.1 h.2.1 h.2.2.1 h.2.2.2.1 h.2.2.2.2.1 h.2.2.2.2.2.1 h.2.2.2.2.2.2.1 h.2.2.2.2.2.2.2.1 h.2.2.2.2.2.2.2.2.1 h.2.2.2.2.2.2.2.2.2) (s2, s3, s4, s60, s61, s119, s120, b14, b14_1, b14_2)

theorem law04_ZoneExact_l2_eq (s2 : Int) (s3 : Int) (s4 : Int) (s60 : (List (ByteArray × (Int × (List (Int × (Int × (Int × (Int × (Int × (Int × Int))))))))))) (s61 : Int) (s119 : (List Int)) (s120 : Int) (b14 : ByteArray) (b14_1 : Int) (b14_2 : (List (Int × (Int × (Int × (Int × (Int × (Int × Int)))))))) : law04_ZoneExact_l2 s2 s3 s4 s60 s61 s119 s120 b14 b14_1 b14_2 = lpK (law04_ZoneExact_l2_step s2 s3 s4 s60 s61 s119 s120 b14 b14_1 b14_2) (fun h => law04_ZoneExact_l2 h.1 h.2.1 h.2.2.1 h.2.2.2.1 h.2.2.2.2.1 h.2.2.2.2.2.1 h.2.2.2.2.2.2.1 h.2.2.2.2.2.2.2.1 h.2.2.2.2.2.2.2.2.1 h.2.2.2.2.2.2.2.2.2) := loopOpt_eq _ _

def law04_ZoneExact_l0_step (s2 : Int) (s3 : Int) (s4 : Int) (s60 : (List (ByteArray × (Int × (List (Int × (Int × (Int × (Int × (Int × (Int × Int))))))))))) (s61 : Int) : Option ((Int × Int × Int × (List (ByteArray × (Int × (List (Int × (Int × (Int × (Int × (Int × (Int × Int)))))))))) × Int) ⊕ (Bool ⊕ Unit)) :=
  cond (decide (s61 < (4 : Int))) (
  cond (inR s61 4) (
  let t63_1 : (ByteArray × (Int × (List (Int × (Int × (Int × (Int × (Int × (Int × Int))))))))) := (List.getD s60 (Int.toNat s61) (ByteArray.empty, ((0 : Int), ([] : (List (Int × (Int × (Int × (Int × (Int × (Int × Int)))))))))))
  (zone_Transitions (t63_1.1, (t63_1.2.1, t63_1.2.2))).bind fun r66_1 =>
  (r04_Transitions (t63_1.1, (t63_1.2.1, t63_1.2.2))).bind fun r71_1 =>
  (law04_same r66_1.1 r71_1.1).bind fun r76_1 =>
  cond (!r76_1) (
  some (.inr (.inl false))) (
  cond (r66_1.2 != r71_1.2) (
  some (.inr (.inl false))) (
  (zone_Check (t63_1.1, (t63_1.2.1, t63_1.2.2))).bind fun r85_1 =>
  (r04_Check (t63_1.1, (t63_1.2.1, t63_1.2.2))).bind fun r87_1 =>
  cond (r85_1 != r87_1) (
  some (.inr (.inl false))) (
  (zone_Horizon (t63_1.1, (t63_1.2.1, t63_1.2.2))).bind fun r92_1 =>
  (r04_Horizon (t63_1.1, (t63_1.2.1, t63_1.2.2))).bind fun r94_1 =>
  cond (r92_1 != r94_1) (
  some (.inr (.inl false))) (
  let t98_1 : Int := (Int.ofNat (List.length r71_1.1))
  cond (decide (t98_1 > (0 : Int))) (
  let t103_1 : Int := (Int.ofNat (List.length r71_1.1))
  (made_Mod s2 t103_1).bind fun r104_1 =>
  cond (inR r104_1 (List.length r71_1.1)) (
  let t107_1 : Int := (List.getD r71_1.1 (Int.toNat r104_1) ((0 : Int), (0 : Int))).1
  (made_Mod s4 (9 : Int)).bind fun r111_2 =>
  let t112_2 : Int := (w64 (t107_1 + r111_2))
  let t113_2 : Int := (w64 (t112_2 - (4 : Int)))
  (made_Mod s3 (90000 : Int)).bind fun r116_2 =>
  let t117_2 : Int := (w64 (t107_1 + r116_2))
  let t118_2 : Int := (w64 (t117_2 - (45000 : Int)))
  let t119_2 : (List Int) := [s2, t113_2, t118_2, (0 : Int), (8589934592 : Int)]
  (law04_ZoneExact_l2 s2 s3 s4 s60 s61 t119_2 (0 : Int) t63_1.1 t63_1.2.1 t63_1.2.2).bind fun q2_2 =>
  sumC q2_2 (fun a_4 =>
  some (.inr (.inl a_4))) (fun b_4 =>
  let t228_2 : Int := (w64 (b_4.2.2.2.2 + (1 : Int)))
  some (.inl (b_4.1, b_4.2.1, b_4.2.2.1, b_4.2.2.2.1, t228_2)))) none) (
  (made_Mod s4 (9 : Int)).bind fun r111_3 =>
  let t112_3 : Int := (w64 ((1767225600 : Int) + r111_3))
  let t113_3 : Int := (w64 (t112_3 - (4 : Int)))
  (made_Mod s3 (90000 : Int)).bind fun r116_3 =>
  let t117_3 : Int := (w64 ((1767225600 : Int) + r116_3))
  let t118_3 : Int := (w64 (t117_3 - (45000 : Int)))
  let t119_3 : (List Int) := [s2, t113_3, t118_3, (0 : Int), (8589934592 : Int)]
  (law04_ZoneExact_l2 s2 s3 s4 s60 s61 t119_3 (0 : Int) t63_1.1 t63_1.2.1 t63_1.2.2).bind fun q2_3 =>
  sumC q2_3 (fun a_5 =>
  some (.inr (.inl a_5))) (fun b_5 =>
  let t228_3 : Int := (w64 (b_5.2.2.2.2 + (1 : Int)))
  some (.inl (b_5.1, b_5.2.1, b_5.2.2.1, b_5.2.2.2.1, t228_3))))))))) none) (
  some (.inr (.inr ())))

def law04_ZoneExact_l0 (s2 : Int) (s3 : Int) (s4 : Int) (s60 : (List (ByteArray × (Int × (List (Int × (Int × (Int × (Int × (Int × (Int × Int))))))))))) (s61 : Int) : Option (Bool ⊕ Unit) :=
  loopOpt (fun h : Int × Int × Int × (List (ByteArray × (Int × (List (Int × (Int × (Int × (Int × (Int × (Int × Int)))))))))) × Int => law04_ZoneExact_l0_step h.1 h.2.1 h.2.2.1 h.2.2.2.1 h.2.2.2.2) (s2, s3, s4, s60, s61)

theorem law04_ZoneExact_l0_eq (s2 : Int) (s3 : Int) (s4 : Int) (s60 : (List (ByteArray × (Int × (List (Int × (Int × (Int × (Int × (Int × (Int × Int))))))))))) (s61 : Int) : law04_ZoneExact_l0 s2 s3 s4 s60 s61 = lpK (law04_ZoneExact_l0_step s2 s3 s4 s60 s61) (fun h => law04_ZoneExact_l0 h.1 h.2.1 h.2.2.1 h.2.2.2.1 h.2.2.2.2) := loopOpt_eq _ _

def law04_ZoneExact (a0_raw : (ByteArray × (Int × (List (Int × (Int × (Int × (Int × (Int × (Int × Int)))))))))) (a1_t : (List Int)) (a2_x : Int) (a3_day : Int) (a4_second : Int) : Option (Bool) :=
  let t42 : Int := (Int.ofNat (List.length a0_raw.2.2))
  cond (decide (t42 > (20 : Int))) (
  (law04_sane).bind fun r49 =>
  some r49) (
  (made_Light a1_t).bind fun r46 =>
  cond (!r46) (
  (law04_sane).bind fun r49_1 =>
  some r49_1) (
  (made_Roll a1_t).bind fun r51 =>
  (made_Dice_Zone r51.1 r51.2 (ByteArray.mk #[97])).bind fun r53 =>
  (law04_odd r53.2.1 r53.2.2 (r53.1.1, (r53.1.2.1, r53.1.2.2))).bind fun r57 =>
  (law04_example).bind fun r59 =>
  let t60 : (List (ByteArray × (Int × (List (Int × (Int × (Int × (Int × (Int × (Int × Int)))))))))) := [(r53.1.1, (r53.1.2.1, r53.1.2.2)), (r57.1.1, (r57.1.2.1, r57.1.2.2)), (a0_raw.1, (a0_raw.2.1, a0_raw.2.2)), (r59.1, (r59.2.1, r59.2.2))]
  (law04_ZoneExact_l0 a2_x a3_day a4_second t60 (0 : Int)).bind fun q0 =>
  sumC q0 (fun a =>
  some a) (fun b =>
  (law04_sane).bind fun r229 =>
  some r229)))

def recur_in (a0_n : Int) (a1_lo : Int) (a2_hi : Int) : Option (Bool) :=
  some (cond (decide (a0_n ≥ a1_lo)) (decide (a0_n ≤ a2_hi)) false)

def recur_right (a0_l : (ByteArray × (Int × ((Int × Int) × (Int × (Int × ((List Int) × ((List (Int × Int)) × (Int × Int))))))))) : Option (Bool) :=
  (recur_in a0_l.2.2.1.1 (1 : Int) (100000 : Int)).bind fun r6 =>
  cond r6 (
  (recur_in a0_l.2.2.1.2 (0 : Int) (86399 : Int)).bind fun r11 =>
  cond r11 (
  (recur_in a0_l.2.2.2.1 (0 : Int) (2 : Int)).bind fun r16 =>
  cond r16 (
  (recur_in a0_l.2.2.2.2.1 (1 : Int) (400 : Int)).bind fun r21 =>
  let t26 : Int := (Int.ofNat (List.length a0_l.2.2.2.2.2.1))
  some (cond r21 (decide (t26 > (0 : Int))) false)) (
  let t26_1 : Int := (Int.ofNat (List.length a0_l.2.2.2.2.2.1))
  some false)) (
  let t26_2 : Int := (Int.ofNat (List.length a0_l.2.2.2.2.2.1))
  some false)) (
  let t26_3 : Int := (Int.ofNat (List.length a0_l.2.2.2.2.2.1))
  some false)

def recur_open (a0_z : (ByteArray × (Int × (List (Int × (Int × (Int × (Int × (Int × (Int × Int)))))))))) (a1_l : (ByteArray × (Int × ((Int × Int) × (Int × (Int × ((List Int) × ((List (Int × Int)) × (Int × Int))))))))) : Option ((Int × (List (Int × Int))) × Bool) :=
  (zone_Of (a0_z.1, (a0_z.2.1, a0_z.2.2))).bind fun r10 =>
  cond (r10.2 == (0 : Int)) (
  (recur_right (a1_l.1, (a1_l.2.1, ((a1_l.2.2.1.1, a1_l.2.2.1.2), (a1_l.2.2.2.1, (a1_l.2.2.2.2.1, (a1_l.2.2.2.2.2.1, (a1_l.2.2.2.2.2.2.1, (a1_l.2.2.2.2.2.2.2.1, a1_l.2.2.2.2.2.2.2.2))))))))).bind fun r18 =>
  some ((r10.1.1, r10.1.2), r18)) (
  some ((r10.1.1, r10.1.2), false))

def recur_step (a0_l : (ByteArray × (Int × ((Int × Int) × (Int × (Int × ((List Int) × ((List (Int × Int)) × (Int × Int))))))))) : Option (Int) :=
  cond (a0_l.2.2.2.1 == (2 : Int)) (
  let t8 : Int := (w64 ((7 : Int) * a0_l.2.2.2.2.1))
  some t8) (
  some a0_l.2.2.2.2.1)

def recur_HandoverOf (a0_b : (Int × (List (Int × Int)))) (a1_l : (ByteArray × (Int × ((Int × Int) × (Int × (Int × ((List Int) × ((List (Int × Int)) × (Int × Int))))))))) (a2_k : Int) : Option (Int × Bool) :=
  cond (decide (a2_k > (8589934592 : Int))) (
  some ((0 : Int), false)) (
  cond (a1_l.2.2.2.1 != (0 : Int)) (
  (recur_step (a1_l.1, (a1_l.2.1, ((a1_l.2.2.1.1, a1_l.2.2.1.2), (a1_l.2.2.2.1, (a1_l.2.2.2.2.1, (a1_l.2.2.2.2.2.1, (a1_l.2.2.2.2.2.2.1, (a1_l.2.2.2.2.2.2.2.1, a1_l.2.2.2.2.2.2.2.2))))))))).bind fun r22 =>
  let t23 : Int := (w64 (a2_k * r22))
  let t24 : Int := (w64 (a1_l.2.2.1.1 + t23))
  (zone_Table_First (a0_b.1, a0_b.2) (t24, a1_l.2.2.1.2)).bind fun r28 =>
  some (r28.1, r28.2)) (
  (zone_Table_First (a0_b.1, a0_b.2) (a1_l.2.2.1.1, a1_l.2.2.1.2)).bind fun r34 =>
  let t40 : Int := (w64 ((3600 : Int) * a1_l.2.2.2.2.1))
  let t42 : Int := (w64 (t40 * a2_k))
  let t43 : Int := (w64 (r34.1 + t42))
  some (t43, (cond r34.2 (decide (t43 ≤ (8589934592 : Int))) false))))

def recur_ShiftOf_l0_step (s2 : Int) (s9 : Int) (b3 : Int) (b3_1 : (List (Int × Int))) (b4 : ByteArray) (b4_1 : Int) (b4_2 : Int) (b4_3 : Int) (b4_4 : Int) (b4_5 : Int) (b4_6 : (List Int)) (b4_7 : (List (Int × Int))) (b4_8 : Int) (b4_9 : Int) : Option ((Int × Int × Int × (List (Int × Int)) × ByteArray × Int × Int × Int × Int × Int × (List Int) × (List (Int × Int)) × Int × Int) ⊕ ((Int × Int × Int × (List (Int × Int)) × ByteArray × Int × Int × Int × Int × Int × (List Int) × (List (Int × Int)) × Int × Int))) :=
  cond (decide (s9 > (0 : Int))) (
  (recur_HandoverOf (b3, b3_1) (b4, (b4_1, ((b4_2, b4_3), (b4_4, (b4_5, (b4_6, (b4_7, (b4_8, b4_9)))))))) s9).bind fun r55_1 =>
  cond (cond r55_1.2 (decide (r55_1.1 ≤ s2)) false) (
  some (.inr (s2, s9, b3, b3_1, b4, b4_1, b4_2, b4_3, b4_4, b4_5, b4_6, b4_7, b4_8, b4_9))) (
  let t65_1 : Int := (w64 (s9 - (1 : Int)))
  some (.inl (s2, t65_1, b3, b3_1, b4, b4_1, b4_2, b4_3, b4_4, b4_5, b4_6, b4_7, b4_8, b4_9)))) (
  some (.inr (s2, s9, b3, b3_1, b4, b4_1, b4_2, b4_3, b4_4, b4_5, b4_6, b4_7, b4_8, b4_9)))

def recur_ShiftOf_l0 (s2 : Int) (s9 : Int) (b3 : Int) (b3_1 : (List (Int × Int))) (b4 : ByteArray) (b4_1 : Int) (b4_2 : Int) (b4_3 : Int) (b4_4 : Int) (b4_5 : Int) (b4_6 : (List Int)) (b4_7 : (List (Int × Int))) (b4_8 : Int) (b4_9 : Int) : Option ((Int × Int × Int × (List (Int × Int)) × ByteArray × Int × Int × Int × Int × Int × (List Int) × (List (Int × Int)) × Int × Int)) :=
  loopOpt (fun h : Int × Int × Int × (List (Int × Int)) × ByteArray × Int × Int × Int × Int × Int × (List Int) × (List (Int × Int)) × Int × Int => recur_ShiftOf_l0_step h.1 h.2.1 h.2.2.1 h.2.2.2.1 h.2.2.2.2.1 h.2.2.2.2.2.1 h.2.2.2.2.2.2.1 h.2.2.2.2.2.2.2.1 h.2.2.2.2.2.2.2.2.1 h.2.2.2.2.2.2.2.2.2.1 h.2.2.2.2.2.2.2.2.2.2.1 h.2.2.2.2.2.2.2.2.2.2.2.1 h.2.2.2.2.2.2.2.2.2.2.2.2.1 h.2.2.2.2.2.2.2.2.2.2.2.2.2) (s2, s9, b3, b3_1, b4, b4_1, b4_2, b4_3, b4_4, b4_5, b4_6, b4_7, b4_8, b4_9)

theorem recur_ShiftOf_l0_eq (s2 : Int) (s9 : Int) (b3 : Int) (b3_1 : (List (Int × Int))) (b4 : ByteArray) (b4_1 : Int) (b4_2 : Int) (b4_3 : Int) (b4_4 : Int) (b4_5 : Int) (b4_6 : (List Int)) (b4_7 : (List (Int × Int))) (b4_8 : Int) (b4_9 : Int) : recur_ShiftOf_l0 s2 s9 b3 b3_1 b4 b4_1 b4_2 b4_3 b4_4 b4_5 b4_6 b4_7 b4_8 b4_9 = lpK (recur_ShiftOf_l0_step s2 s9 b3 b3_1 b4 b4_1 b4_2 b4_3 b4_4 b4_5 b4_6 b4_7 b4_8 b4_9) (fun h => recur_ShiftOf_l0 h.1 h.2.1 h.2.2.1 h.2.2.2.1 h.2.2.2.2.1 h.2.2.2.2.2.1 h.2.2.2.2.2.2.1 h.2.2.2.2.2.2.2.1 h.2.2.2.2.2.2.2.2.1 h.2.2.2.2.2.2.2.2.2.1 h.2.2.2.2.2.2.2.2.2.2.1 h.2.2.2.2.2.2.2.2.2.2.2.1 h.2.2.2.2.2.2.2.2.2.2.2.2.1 h.2.2.2.2.2.2.2.2.2.2.2.2.2) := loopOpt_eq _ _

def recur_ShiftOf_l2_step (s2 : Int) (s9 : Int) (b3 : Int) (b3_1 : (List (Int × Int))) (b4 : ByteArray) (b4_1 : Int) (b4_2 : Int) (b4_3 : Int) (b4_4 : Int) (b4_5 : Int) (b4_6 : (List Int)) (b4_7 : (List (Int × Int))) (b4_8 : Int) (b4_9 : Int) : Option ((Int × Int × Int × (List (Int × Int)) × ByteArray × Int × Int × Int × Int × Int × (List Int) × (List (Int × Int)) × Int × Int) ⊕ (Int)) :=
  let t70_1 : Int := (w64 (s9 + (1 : Int)))
  (recur_HandoverOf (b3, b3_1) (b4, (b4_1, ((b4_2, b4_3), (b4_4, (b4_5, (b4_6, (b4_7, (b4_8, b4_9)))))))) t70_1).bind fun r71_1 =>
  cond (cond (!r71_1.2) true (decide (r71_1.1 > s2))) (
  some (.inr s9)) (
  let t83_1 : Int := (w64 (s9 + (1 : Int)))
  some (.inl (s2, t83_1, b3, b3_1, b4, b4_1, b4_2, b4_3, b4_4, b4_5, b4_6, b4_7, b4_8, b4_9)))

def recur_ShiftOf_l2 (s2 : Int) (s9 : Int) (b3 : Int) (b3_1 : (List (Int × Int))) (b4 : ByteArray) (b4_1 : Int) (b4_2 : Int) (b4_3 : Int) (b4_4 : Int) (b4_5 : Int) (b4_6 : (List Int)) (b4_7 : (List (Int × Int))) (b4_8 : Int) (b4_9 : Int) : Option (Int) :=
  loopOpt (fun h : Int × Int × Int × (List (Int × Int)) × ByteArray × Int × Int × Int × Int × Int × (List Int) × (List (Int × Int)) × Int × Int => recur_ShiftOf_l2_step h.1 h.2.1 h.2.2.1 h.2.2.2.1 h.2.2.2.2.1 h.2.2.2.2.2.1 h.2.2.2.2.2.2.1 h.2.2.2.2.2.2.2.1 h.2.2.2.2.2.2.2.2.1 h.2.2.2.2.2.2.2.2.2.1 h.2.2.2.2.2.2.2.2.2.2.1 h.2.2.2.2.2.2.2.2.2.2.2.1 h.2.2.2.2.2.2.2.2.2.2.2.2.1 h.2.2.2.2.2.2.2.2.2.2.2.2.2) (s2, s9, b3, b3_1, b4, b4_1, b4_2, b4_3, b4_4, b4_5, b4_6, b4_7, b4_8, b4_9)

theorem recur_ShiftOf_l2_eq (s2 : Int) (s9 : Int) (b3 : Int) (b3_1 : (List (Int × Int))) (b4 : ByteArray) (b4_1 : Int) (b4_2 : Int) (b4_3 : Int) (b4_4 : Int) (b4_5 : Int) (b4_6 : (List Int)) (b4_7 : (List (Int × Int))) (b4_8 : Int) (b4_9 : Int) : recur_ShiftOf_l2 s2 s9 b3 b3_1 b4 b4_1 b4_2 b4_3 b4_4 b4_5 b4_6 b4_7 b4_8 b4_9 = lpK (recur_ShiftOf_l2_step s2 s9 b3 b3_1 b4 b4_1 b4_2 b4_3 b4_4 b4_5 b4_6 b4_7 b4_8 b4_9) (fun h => recur_ShiftOf_l2 h.1 h.2.1 h.2.2.1 h.2.2.2.1 h.2.2.2.2.1 h.2.2.2.2.2.1 h.2.2.2.2.2.2.1 h.2.2.2.2.2.2.2.1 h.2.2.2.2.2.2.2.2.1 h.2.2.2.2.2.2.2.2.2.1 h.2.2.2.2.2.2.2.2.2.2.1 h.2.2.2.2.2.2.2.2.2.2.2.1 h.2.2.2.2.2.2.2.2.2.2.2.2.1 h.2.2.2.2.2.2.2.2.2.2.2.2.2) := loopOpt_eq _ _

def recur_ShiftOf (a0_b : (Int × (List (Int × Int)))) (a1_l : (ByteArray × (Int × ((Int × Int) × (Int × (Int × ((List Int) × ((List (Int × Int)) × (Int × Int))))))))) (a2_t : Int) : Option (Int) :=
  (recur_HandoverOf (a0_b.1, a0_b.2) (a1_l.1, (a1_l.2.1, ((a1_l.2.2.1.1, a1_l.2.2.1.2), (a1_l.2.2.2.1, (a1_l.2.2.2.2.1, (a1_l.2.2.2.2.2.1, (a1_l.2.2.2.2.2.2.1, (a1_l.2.2.2.2.2.2.2.1, a1_l.2.2.2.2.2.2.2.2)))))))) (0 : Int)).bind fun r17 =>
  cond (cond (!r17.2) true (decide (r17.1 > a2_t))) (
  some (-1 : Int)) (
  cond (a1_l.2.2.2.1 == (0 : Int)) (
  let t32 : Int := (w64 (a2_t - r17.1))
  let t35 : Int := (w64 ((3600 : Int) * a1_l.2.2.2.2.1))
  cond (!(t35 == 0)) (
  let t36 : Int := (w64 (Int.tdiv t32 t35))
  some t36) none) (
  (zone_Table_Local (a0_b.1, a0_b.2) a2_t).bind fun r39 =>
  let t44 : Int := (w64 (r39.1 - a1_l.2.2.1.1))
  (recur_step (a1_l.1, (a1_l.2.1, ((a1_l.2.2.1.1, a1_l.2.2.1.2), (a1_l.2.2.2.1, (a1_l.2.2.2.2.1, (a1_l.2.2.2.2.2.1, (a1_l.2.2.2.2.2.2.1, (a1_l.2.2.2.2.2.2.2.1, a1_l.2.2.2.2.2.2.2.2))))))))).bind fun r46 =>
  cond (!(r46 == 0)) (
  let t47 : Int := (w64 (Int.tdiv t44 r46))
  let t48 : Int := (if t47 > (0 : Int) then t47 else (0 : Int) : Int)
  (recur_ShiftOf_l0 a2_t t48 a0_b.1 a0_b.2 a1_l.1 a1_l.2.1 a1_l.2.2.1.1 a1_l.2.2.1.2 a1_l.2.2.2.1 a1_l.2.2.2.2.1 a1_l.2.2.2.2.2.1 a1_l.2.2.2.2.2.2.1 a1_l.2.2.2.2.2.2.2.1 a1_l.2.2.2.2.2.2.2.2).bind fun q0 =>
  (recur_ShiftOf_l2 q0.1 q0.2.1 q0.2.2.1 q0.2.2.2.1 q0.2.2.2.2.1 q0.2.2.2.2.2.1 q0.2.2.2.2.2.2.1 q0.2.2.2.2.2.2.2.1 q0.2.2.2.2.2.2.2.2.1 q0.2.2.2.2.2.2.2.2.2.1 q0.2.2.2.2.2.2.2.2.2.2.1 q0.2.2.2.2.2.2.2.2.2.2.2.1 q0.2.2.2.2.2.2.2.2.2.2.2.2.1 q0.2.2.2.2.2.2.2.2.2.2.2.2.2).bind fun q2 =>
  some q2) none))

def recur_HandoversOf_l0_step (s2 : Int) (s3 : Int) (s10 : Int) (b4 : Int) (b4_1 : (List (Int × Int))) (b5 : ByteArray) (b5_1 : Int) (b5_2 : Int) (b5_3 : Int) (b5_4 : Int) (b5_5 : Int) (b5_6 : (List Int)) (b5_7 : (List (Int × Int))) (b5_8 : Int) (b5_9 : Int) (l9 : (List Int)) : Option ((Int × Int × Int × Int × (List (Int × Int)) × ByteArray × Int × Int × Int × Int × Int × (List Int) × (List (Int × Int)) × Int × Int × (List Int)) ⊕ ((List Int))) :=
  (recur_HandoverOf (b4, b4_1) (b5, (b5_1, ((b5_2, b5_3), (b5_4, (b5_5, (b5_6, (b5_7, (b5_8, b5_9)))))))) s10).bind fun r24_2 =>
  cond (cond (!r24_2.2) true (decide (r24_2.1 ≥ s3))) (
  some (.inr l9)) (
  cond (decide (r24_2.1 ≥ s2)) (
  cond (decide (List.length l9 + List.length [r24_2.1] ≤ sizeMax)) (
  let t41_2 : (List Int) := (l9 ++ [r24_2.1])
  let t19_4 : Int := (w64 (s10 + (1 : Int)))
  some (.inl (s2, s3, t19_4, b4, b4_1, b5, b5_1, b5_2, b5_3, b5_4, b5_5, b5_6, b5_7, b5_8, b5_9, t41_2))) none) (
  let t19_5 : Int := (w64 (s10 + (1 : Int)))
  some (.inl (s2, s3, t19_5, b4, b4_1, b5, b5_1, b5_2, b5_3, b5_4, b5_5, b5_6, b5_7, b5_8, b5_9, l9))))

def recur_HandoversOf_l0 (s2 : Int) (s3 : Int) (s10 : Int) (b4 : Int) (b4_1 : (List (Int × Int))) (b5 : ByteArray) (b5_1 : Int) (b5_2 : Int) (b5_3 : Int) (b5_4 : Int) (b5_5 : Int) (b5_6 : (List Int)) (b5_7 : (List (Int × Int))) (b5_8 : Int) (b5_9 : Int) (l9 : (List Int)) : Option ((List Int)) :=
  loopOpt (fun h : Int × Int × Int × Int × (List (Int × Int)) × ByteArray × Int × Int × Int × Int × Int × (List Int) × (List (Int × Int)) × Int × Int × (List Int) => recur_HandoversOf_l0_step h.1 h.2.1 h.2.2.1 h.2.2.2.1 h.2.2.2.2.1 h.2.2.2.2.2.1 h.2.2.2.2.2.2.1 h.2.2.2.2.2.2.2.1 h.2.2.2.2.2.2.2.2.1 h.2.2.2.2.2.2.2.2.2.1 h.2.2.2.2.2.2.2.2.2.2.1 h.2.2.2.2.2.2.2.2.2.2.2.1 h.2.2.2.2.2.2.2.2.2.2.2.2.1 h.2.2.2.2.2.2.2.2.2.2.2.2.2.1 h.2.2.2.2.2.2.2.2.2.2.2.2.2.2.1 h.2.2.2.2.2.2.2.2.2.2.2.2.2.2.2) (s2, s3, s10, b4, b4_1, b5, b5_1, b5_2, b5_3, b5_4, b5_5, b5_6, b5_7, b5_8, b5_9, l9)

theorem recur_HandoversOf_l0_eq (s2 : Int) (s3 : Int) (s10 : Int) (b4 : Int) (b4_1 : (List (Int × Int))) (b5 : ByteArray) (b5_1 : Int) (b5_2 : Int) (b5_3 : Int) (b5_4 : Int) (b5_5 : Int) (b5_6 : (List Int)) (b5_7 : (List (Int × Int))) (b5_8 : Int) (b5_9 : Int) (l9 : (List Int)) : recur_HandoversOf_l0 s2 s3 s10 b4 b4_1 b5 b5_1 b5_2 b5_3 b5_4 b5_5 b5_6 b5_7 b5_8 b5_9 l9 = lpK (recur_HandoversOf_l0_step s2 s3 s10 b4 b4_1 b5 b5_1 b5_2 b5_3 b5_4 b5_5 b5_6 b5_7 b5_8 b5_9 l9) (fun h => recur_HandoversOf_l0 h.1 h.2.1 h.2.2.1 h.2.2.2.1 h.2.2.2.2.1 h.2.2.2.2.2.1 h.2.2.2.2.2.2.1 h.2.2.2.2.2.2.2.1 h.2.2.2.2.2.2.2.2.1 h.2.2.2.2.2.2.2.2.2.1 h.2.2.2.2.2.2.2.2.2.2.1 h.2.2.2.2.2.2.2.2.2.2.2.1 h.2.2.2.2.2.2.2.2.2.2.2.2.1 h.2.2.2.2.2.2.2.2.2.2.2.2.2.1 h.2.2.2.2.2.2.2.2.2.2.2.2.2.2.1 h.2.2.2.2.2.2.2.2.2.2.2.2.2.2.2) := loopOpt_eq _ _

def recur_HandoversOf (a0_b : (Int × (List (Int × Int)))) (a1_l : (ByteArray × (Int × ((Int × Int) × (Int × (Int × ((List Int) × ((List (Int × Int)) × (Int × Int))))))))) (a2_from : Int) (a3_to : Int) : Option ((List Int)) :=
  (recur_ShiftOf (a0_b.1, a0_b.2) (a1_l.1, (a1_l.2.1, ((a1_l.2.2.1.1, a1_l.2.2.1.2), (a1_l.2.2.2.1, (a1_l.2.2.2.2.1, (a1_l.2.2.2.2.2.1, (a1_l.2.2.2.2.2.2.1, (a1_l.2.2.2.2.2.2.2.1, a1_l.2.2.2.2.2.2.2.2)))))))) a2_from).bind fun r16 =>
  let t17 : Int := (if r16 > (0 : Int) then r16 else (0 : Int) : Int)
  (recur_HandoversOf_l0 a2_from a3_to t17 a0_b.1 a0_b.2 a1_l.1 a1_l.2.1 a1_l.2.2.1.1 a1_l.2.2.1.2 a1_l.2.2.2.1 a1_l.2.2.2.2.1 a1_l.2.2.2.2.2.1 a1_l.2.2.2.2.2.2.1 a1_l.2.2.2.2.2.2.2.1 a1_l.2.2.2.2.2.2.2.2 ([] : (List Int))).bind fun q0 =>
  some q0

def recur_Handovers (a0_z : (ByteArray × (Int × (List (Int × (Int × (Int × (Int × (Int × (Int × Int)))))))))) (a1_l : (ByteArray × (Int × ((Int × Int) × (Int × (Int × ((List Int) × ((List (Int × Int)) × (Int × Int))))))))) (a2_from : Int) (a3_to : Int) : Option ((List Int) × Int) :=
  (recur_open (a0_z.1, (a0_z.2.1, a0_z.2.2)) (a1_l.1, (a1_l.2.1, ((a1_l.2.2.1.1, a1_l.2.2.1.2), (a1_l.2.2.2.1, (a1_l.2.2.2.2.1, (a1_l.2.2.2.2.2.1, (a1_l.2.2.2.2.2.2.1, (a1_l.2.2.2.2.2.2.2.1, a1_l.2.2.2.2.2.2.2.2))))))))).bind fun r15 =>
  cond (!r15.2) (
  some (([] : (List Int)), (8 : Int))) (
  (recur_in a2_from (0 : Int) (8589934592 : Int)).bind fun r23 =>
  cond (!r23) (
  let t34 : Int := (w64 (a3_to - a2_from))
  some (([] : (List Int)), (1 : Int))) (
  (recur_in a3_to a2_from (8589934592 : Int)).bind fun r28 =>
  let t34_1 : Int := (w64 (a3_to - a2_from))
  cond (cond (!r28) true (decide (t34_1 > (34560000 : Int)))) (
  some (([] : (List Int)), (1 : Int))) (
  (recur_HandoversOf (r15.1.1, r15.1.2) (a1_l.1, (a1_l.2.1, ((a1_l.2.2.1.1, a1_l.2.2.1.2), (a1_l.2.2.2.1, (a1_l.2.2.2.2.1, (a1_l.2.2.2.2.2.1, (a1_l.2.2.2.2.2.2.1, (a1_l.2.2.2.2.2.2.2.1, a1_l.2.2.2.2.2.2.2.2)))))))) a2_from a3_to).bind fun r41 =>
  some (r41, (0 : Int)))))

def recur_Shift (a0_z : (ByteArray × (Int × (List (Int × (Int × (Int × (Int × (Int × (Int × Int)))))))))) (a1_l : (ByteArray × (Int × ((Int × Int) × (Int × (Int × ((List Int) × ((List (Int × Int)) × (Int × Int))))))))) (a2_t : Int) : Option (Int × Int) :=
  (recur_open (a0_z.1, (a0_z.2.1, a0_z.2.2)) (a1_l.1, (a1_l.2.1, ((a1_l.2.2.1.1, a1_l.2.2.1.2), (a1_l.2.2.2.1, (a1_l.2.2.2.2.1, (a1_l.2.2.2.2.2.1, (a1_l.2.2.2.2.2.2.1, (a1_l.2.2.2.2.2.2.2.1, a1_l.2.2.2.2.2.2.2.2))))))))).bind fun r13 =>
  cond (!r13.2) (
  some ((0 : Int), (8 : Int))) (
  (recur_in a2_t (0 : Int) (8589934592 : Int)).bind fun r21 =>
  cond (!r21) (
  some ((0 : Int), (1 : Int))) (
  (recur_ShiftOf (r13.1.1, r13.1.2) (a1_l.1, (a1_l.2.1, ((a1_l.2.2.1.1, a1_l.2.2.1.2), (a1_l.2.2.2.1, (a1_l.2.2.2.2.1, (a1_l.2.2.2.2.2.1, (a1_l.2.2.2.2.2.2.1, (a1_l.2.2.2.2.2.2.2.1, a1_l.2.2.2.2.2.2.2.2)))))))) a2_t).bind fun r26 =>
  some (r26, (0 : Int))))

def recur_Turn (a0_z : (ByteArray × (Int × (List (Int × (Int × (Int × (Int × (Int × (Int × Int)))))))))) (a1_l : (ByteArray × (Int × ((Int × Int) × (Int × (Int × ((List Int) × ((List (Int × Int)) × (Int × Int))))))))) (a2_t : Int) : Option (Int × Int) :=
  (recur_Shift (a0_z.1, (a0_z.2.1, a0_z.2.2)) (a1_l.1, (a1_l.2.1, ((a1_l.2.2.1.1, a1_l.2.2.1.2), (a1_l.2.2.2.1, (a1_l.2.2.2.2.1, (a1_l.2.2.2.2.2.1, (a1_l.2.2.2.2.2.2.1, (a1_l.2.2.2.2.2.2.2.1, a1_l.2.2.2.2.2.2.2.2)))))))) a2_t).bind fun r14 =>
  cond (cond (r14.2 != (0 : Int)) true (decide (r14.1 < (0 : Int)))) (
  some (r14.1, r14.2)) (
  let t28 : Int := (Int.ofNat (List.length a1_l.2.2.2.2.2.1))
  cond (!(t28 == 0)) (
  let t29 : Int := (Int.tmod r14.1 t28)
  some (t29, (0 : Int))) none)

def recur_Handover (a0_z : (ByteArray × (Int × (List (Int × (Int × (Int × (Int × (Int × (Int × Int)))))))))) (a1_l : (ByteArray × (Int × ((Int × Int) × (Int × (Int × ((List Int) × ((List (Int × Int)) × (Int × Int))))))))) (a2_k : Int) : Option (Int × Int) :=
  (recur_open (a0_z.1, (a0_z.2.1, a0_z.2.2)) (a1_l.1, (a1_l.2.1, ((a1_l.2.2.1.1, a1_l.2.2.1.2), (a1_l.2.2.2.1, (a1_l.2.2.2.2.1, (a1_l.2.2.2.2.2.1, (a1_l.2.2.2.2.2.2.1, (a1_l.2.2.2.2.2.2.2.1, a1_l.2.2.2.2.2.2.2.2))))))))).bind fun r14 =>
  cond (!r14.2) (
  some ((0 : Int), (8 : Int))) (
  cond (decide (a2_k < (0 : Int))) (
  some ((0 : Int), (1 : Int))) (
  (recur_HandoverOf (r14.1.1, r14.1.2) (a1_l.1, (a1_l.2.1, ((a1_l.2.2.1.1, a1_l.2.2.1.2), (a1_l.2.2.2.1, (a1_l.2.2.2.2.1, (a1_l.2.2.2.2.2.1, (a1_l.2.2.2.2.2.2.1, (a1_l.2.2.2.2.2.2.2.1, a1_l.2.2.2.2.2.2.2.2)))))))) a2_k).bind fun r27 =>
  cond (!r27.2) (
  some ((0 : Int), (10 : Int))) (
  some (r27.1, (0 : Int)))))

def law10_sane  : Option (Bool) :=
  let t13 : (List (Int × (Int × (Int × (Int × (Int × (Int × Int))))))) := [((2020 : Int), ((2030 : Int), ((3 : Int), ((5 : Int), ((6 : Int), ((7200 : Int), (7200 : Int))))))), ((2020 : Int), ((2030 : Int), ((10 : Int), ((5 : Int), ((6 : Int), ((10800 : Int), (3600 : Int)))))))]
  let t16 : (List Int) := [(7 : Int), (8 : Int)]
  (recur_Handovers (ByteArray.empty, ((3600 : Int), t13)) (ByteArray.empty, ((0 : Int), (((20540 : Int), (9000 : Int)), ((1 : Int), ((1 : Int), (t16, (([] : (List (Int × Int))), ((0 : Int), (0 : Int))))))))) (1774600000 : Int) (1774900000 : Int)).bind fun r21 =>
  (recur_Shift (ByteArray.empty, ((3600 : Int), t13)) (ByteArray.empty, ((0 : Int), (((20540 : Int), (9000 : Int)), ((1 : Int), ((1 : Int), (t16, (([] : (List (Int × Int))), ((0 : Int), (0 : Int))))))))) (1774746000 : Int)).bind fun r27 =>
  (recur_Turn (ByteArray.empty, ((3600 : Int), t13)) (ByteArray.empty, ((0 : Int), (((20540 : Int), (9000 : Int)), ((1 : Int), ((1 : Int), (t16, (([] : (List (Int × Int))), ((0 : Int), (0 : Int))))))))) (1774746000 : Int)).bind fun r33 =>
  (recur_Handover (ByteArray.empty, ((3600 : Int), t13)) (ByteArray.empty, ((0 : Int), (((20540 : Int), (9000 : Int)), ((1 : Int), ((1 : Int), (t16, (([] : (List (Int × Int))), ((0 : Int), (0 : Int))))))))) (-1 : Int)).bind fun r39 =>
  let t55 : Bool := (cond (cond (cond (r21.2 == (0 : Int)) (r27.2 == (0 : Int)) false) (r33.2 == (0 : Int)) false) (r39.2 == (1 : Int)) false)
  let t58 : Int := (Int.ofNat (List.length r21.1))
  cond ((inR (0 : Int) (List.length r21.1)) || !(cond t55 (t58 == (3 : Int)) false)) (
  let t64 : Int := (List.getD r21.1 0 (0 : Int))
  cond ((inR (1 : Int) (List.length r21.1)) || !(cond (cond t55 (t58 == (3 : Int)) false) (t64 == (1774661400 : Int)) false)) (
  let t70 : Int := (List.getD r21.1 1 (0 : Int))
  let t72 : Bool := (cond (cond (cond t55 (t58 == (3 : Int)) false) (t64 == (1774661400 : Int)) false) (t70 == (1774746000 : Int)) false)
  cond ((inR (2 : Int) (List.length r21.1)) || !t72) (
  let t76 : Int := (List.getD r21.1 2 (0 : Int))
  let t86 : Bool := (cond (cond (cond t72 (t76 == (1774830600 : Int)) false) (r27.1 == (1 : Int)) false) (r33.1 == (1 : Int)) false)
  some t86) none) none) none

def made_names  : Option ((List ByteArray)) :=
  let t1 : (List ByteArray) := [(ByteArray.mk #[97, 100, 97]), (ByteArray.mk #[98, 111, 98]), (ByteArray.mk #[99, 108, 101, 111]), (ByteArray.mk #[100, 97, 110]), (ByteArray.mk #[101, 118, 101]), (ByteArray.mk #[102, 97, 121]), (ByteArray.mk #[103, 117, 115]), (ByteArray.mk #[104, 97, 108])]
  some t1

def made_Dice_Windows_l0_step (s4 : Int) (s5 : Int) (b0 : (List Int)) (b0_1 : Int) (l3 : (List (Int × Int))) : Option ((Int × Int × (List Int) × Int × (List (Int × Int))) ⊕ (((List Int) × Int × (List (Int × Int))))) :=
  cond (decide (s5 > (0 : Int))) (
  (made_Dice_Next b0 b0_1 (30 : Int)).bind fun r16_2 =>
  let t17_2 : Int := (w64 ((3600 : Int) * r16_2.1))
  let t18_2 : Int := (w64 (s4 + t17_2))
  (made_Dice_Next r16_2.2.1 r16_2.2.2 (2 : Int)).bind fun r20_2 =>
  let t21_2 : Int := (w64 ((60 : Int) * r20_2.1))
  let t22_2 : Int := (w64 (t18_2 + t21_2))
  let t25_2 : (List Int) := [(3600 : Int), (28800 : Int), (43200 : Int), (86400 : Int), (61 : Int), (1 : Int)]
  (made_Dice_Pick r20_2.2.1 r20_2.2.2 t25_2).bind fun r26_2 =>
  let t27_2 : Int := (w64 (t22_2 + r26_2.1))
  cond (decide (t27_2 > (604800 : Int))) (
  some (.inr (r26_2.2.1, r26_2.2.2, l3))) (
  let t34_2 : (List (Int × Int)) := [(t22_2, t27_2)]
  cond (decide (List.length l3 + List.length t34_2 ≤ sizeMax)) (
  let t35_2 : (List (Int × Int)) := (l3 ++ t34_2)
  let t13_2 : Int := (w64 (s5 - (1 : Int)))
  some (.inl (t27_2, t13_2, r26_2.2.1, r26_2.2.2, t35_2))) none)) (
  some (.inr (b0, b0_1, l3)))

def made_Dice_Windows_l0 (s4 : Int) (s5 : Int) (b0 : (List Int)) (b0_1 : Int) (l3 : (List (Int × Int))) : Option (((List Int) × Int × (List (Int × Int)))) :=
  loopOpt (fun h : Int × Int × (List Int) × Int × (List (Int × Int)) => made_Dice_Windows_l0_step h.1 h.2.1 h.2.2.1 h.2.2.2.1 h.2.2.2.2) (s4, s5, b0, b0_1, l3)

theorem made_Dice_Windows_l0_eq (s4 : Int) (s5 : Int) (b0 : (List Int)) (b0_1 : Int) (l3 : (List (Int × Int))) : made_Dice_Windows_l0 s4 s5 b0 b0_1 l3 = lpK (made_Dice_Windows_l0_step s4 s5 b0 b0_1 l3) (fun h => made_Dice_Windows_l0 h.1 h.2.1 h.2.2.1 h.2.2.2.1 h.2.2.2.2) := loopOpt_eq _ _

def made_Dice_Windows (a0_d : (List Int)) (a0_d_1 : Int) : Option ((List (Int × Int)) × (List Int) × Int) :=
  (made_Dice_Next a0_d a0_d_1 (4 : Int)).bind fun r9 =>
  (made_Dice_Windows_l0 (0 : Int) r9.1 r9.2.1 r9.2.2 ([] : (List (Int × Int)))).bind fun q0 =>
  some (q0.2.2, q0.1, q0.2.1)

def made_Dice_Staff_l0_step (s4 : Int) (b0 : (List Int)) (b0_1 : Int) (l3c0 : (List (ByteArray × (Int × (List (Int × (Int × (Int × (Int × (Int × (Int × Int))))))))))) : Option ((Int × (List Int) × Int × (List (ByteArray × (Int × (List (Int × (Int × (Int × (Int × (Int × (Int × Int))))))))))) ⊕ (((List Int) × Int × (List (ByteArray × (Int × (List (Int × (Int × (Int × (Int × (Int × (Int × Int))))))))))))) :=
  cond (decide (s4 > (0 : Int))) (
  let t21_2 : (List ByteArray) := [(ByteArray.mk #[104, 101, 114, 101]), (ByteArray.mk #[116, 104, 101, 114, 101])]
  let t24_1 : Int := (Int.ofNat (List.length l3c0))
  cond (inR t24_1 (List.length t21_2)) (
  let t26_2 : ByteArray := (List.getD t21_2 (Int.toNat t24_1) ByteArray.empty)
  (made_Dice_Zone b0 b0_1 t26_2).bind fun r27_2 =>
  let t28_2 : (List (ByteArray × (Int × (List (Int × (Int × (Int × (Int × (Int × (Int × Int)))))))))) := [(r27_2.1.1, (r27_2.1.2.1, r27_2.1.2.2))]
  cond (decide (List.length l3c0 + List.length t28_2 ≤ sizeMax)) (
  let t29_2 : (List (ByteArray × (Int × (List (Int × (Int × (Int × (Int × (Int × (Int × Int)))))))))) := (l3c0 ++ t28_2)
  let t17_2 : Int := (w64 (s4 - (1 : Int)))
  some (.inl (t17_2, r27_2.2.1, r27_2.2.2, t29_2))) none) none) (
  some (.inr (b0, b0_1, l3c0)))

def made_Dice_Staff_l0 (s4 : Int) (b0 : (List Int)) (b0_1 : Int) (l3c0 : (List (ByteArray × (Int × (List (Int × (Int × (Int × (Int × (Int × (Int × Int))))))))))) : Option (((List Int) × Int × (List (ByteArray × (Int × (List (Int × (Int × (Int × (Int × (Int × (Int × Int)))))))))))) :=
  loopOpt (fun h : Int × (List Int) × Int × (List (ByteArray × (Int × (List (Int × (Int × (Int × (Int × (Int × (Int × Int)))))))))) => made_Dice_Staff_l0_step h.1 h.2.1 h.2.2.1 h.2.2.2) (s4, b0, b0_1, l3c0)

theorem made_Dice_Staff_l0_eq (s4 : Int) (b0 : (List Int)) (b0_1 : Int) (l3c0 : (List (ByteArray × (Int × (List (Int × (Int × (Int × (Int × (Int × (Int × Int))))))))))) : made_Dice_Staff_l0 s4 b0 b0_1 l3c0 = lpK (made_Dice_Staff_l0_step s4 b0 b0_1 l3c0) (fun h => made_Dice_Staff_l0 h.1 h.2.1 h.2.2.1 h.2.2.2) := loopOpt_eq _ _

def made_Dice_Staff_l2_step (s5 : Int) (b0 : (List Int)) (b0_1 : Int) (l3c0 : (List (ByteArray × (Int × (List (Int × (Int × (Int × (Int × (Int × (Int × Int))))))))))) (l3c1 : (List (ByteArray × (Int × ((List (Int × Int)) × (Int × (Int × Bool))))))) : Option ((Int × (List Int) × Int × (List (ByteArray × (Int × (List (Int × (Int × (Int × (Int × (Int × (Int × Int)))))))))) × (List (ByteArray × (Int × ((List (Int × Int)) × (Int × (Int × Bool))))))) ⊕ (((List Int) × Int × (List (ByteArray × (Int × (List (Int × (Int × (Int × (Int × (Int × (Int × Int)))))))))) × (List (ByteArray × (Int × ((List (Int × Int)) × (Int × (Int × Bool))))))))) :=
  cond (decide (s5 > (0 : Int))) (
  (made_names).bind fun r38_2 =>
  let t41_1 : Int := (Int.ofNat (List.length l3c1))
  cond (inR t41_1 (List.length r38_2)) (
  let t43_2 : ByteArray := (List.getD r38_2 (Int.toNat t41_1) ByteArray.empty)
  let t47_2 : Int := (Int.ofNat (List.length l3c0))
  (made_Dice_Next b0 b0_1 t47_2).bind fun r48_2 =>
  (made_Dice_Bool r48_2.2.1 r48_2.2.2 (3 : Int)).bind fun r50_2 =>
  (made_Dice_Bool r50_2.2.1 r50_2.2.2 (2 : Int)).bind fun r53_2 =>
  cond r53_2.1 (
  (made_Dice_Windows r53_2.2.1 r53_2.2.2).bind fun r55_2 =>
  let t58_4 : (List Int) := [(0 : Int), (40 : Int), (100 : Int), (12 : Int)]
  (made_Dice_Pick r55_2.2.1 r55_2.2.2 t58_4).bind fun r59_4 =>
  let t60_4 : Int := (w64 ((3600 : Int) * r59_4.1))
  let t62_4 : (List Int) := [(0 : Int), (11 : Int), (24 : Int), (1 : Int)]
  (made_Dice_Pick r59_4.2.1 r59_4.2.2 t62_4).bind fun r63_4 =>
  let t64_4 : Int := (w64 ((3600 : Int) * r63_4.1))
  let t70_4 : (List (ByteArray × (Int × ((List (Int × Int)) × (Int × (Int × Bool)))))) := [(t43_2, (r48_2.1, (r55_2.1, (t60_4, (t64_4, r50_2.1)))))]
  cond (decide (List.length l3c1 + List.length t70_4 ≤ sizeMax)) (
  let t71_4 : (List (ByteArray × (Int × ((List (Int × Int)) × (Int × (Int × Bool)))))) := (l3c1 ++ t70_4)
  let t37_4 : Int := (w64 (s5 - (1 : Int)))
  some (.inl (t37_4, r63_4.2.1, r63_4.2.2, l3c0, t71_4))) none) (
  let t58_5 : (List Int) := [(0 : Int), (40 : Int), (100 : Int), (12 : Int)]
  (made_Dice_Pick r53_2.2.1 r53_2.2.2 t58_5).bind fun r59_5 =>
  let t60_5 : Int := (w64 ((3600 : Int) * r59_5.1))
  let t62_5 : (List Int) := [(0 : Int), (11 : Int), (24 : Int), (1 : Int)]
  (made_Dice_Pick r59_5.2.1 r59_5.2.2 t62_5).bind fun r63_5 =>
  let t64_5 : Int := (w64 ((3600 : Int) * r63_5.1))
  let t70_5 : (List (ByteArray × (Int × ((List (Int × Int)) × (Int × (Int × Bool)))))) := [(t43_2, (r48_2.1, (([] : (List (Int × Int))), (t60_5, (t64_5, r50_2.1)))))]
  cond (decide (List.length l3c1 + List.length t70_5 ≤ sizeMax)) (
  let t71_5 : (List (ByteArray × (Int × ((List (Int × Int)) × (Int × (Int × Bool)))))) := (l3c1 ++ t70_5)
  let t37_5 : Int := (w64 (s5 - (1 : Int)))
  some (.inl (t37_5, r63_5.2.1, r63_5.2.2, l3c0, t71_5))) none)) none) (
  some (.inr (b0, b0_1, l3c0, l3c1)))

def made_Dice_Staff_l2 (s5 : Int) (b0 : (List Int)) (b0_1 : Int) (l3c0 : (List (ByteArray × (Int × (List (Int × (Int × (Int × (Int × (Int × (Int × Int))))))))))) (l3c1 : (List (ByteArray × (Int × ((List (Int × Int)) × (Int × (Int × Bool))))))) : Option (((List Int) × Int × (List (ByteArray × (Int × (List (Int × (Int × (Int × (Int × (Int × (Int × Int)))))))))) × (List (ByteArray × (Int × ((List (Int × Int)) × (Int × (Int × Bool)))))))) :=
  loopOpt (fun h : Int × (List Int) × Int × (List (ByteArray × (Int × (List (Int × (Int × (Int × (Int × (Int × (Int × Int)))))))))) × (List (ByteArray × (Int × ((List (Int × Int)) × (Int × (Int × Bool)))))) => made_Dice_Staff_l2_step h.1 h.2.1 h.2.2.1 h.2.2.2.1 h.2.2.2.2) (s5, b0, b0_1, l3c0, l3c1)

theorem made_Dice_Staff_l2_eq (s5 : Int) (b0 : (List Int)) (b0_1 : Int) (l3c0 : (List (ByteArray × (Int × (List (Int × (Int × (Int × (Int × (Int × (Int × Int))))))))))) (l3c1 : (List (ByteArray × (Int × ((List (Int × Int)) × (Int × (Int × Bool))))))) : made_Dice_Staff_l2 s5 b0 b0_1 l3c0 l3c1 = lpK (made_Dice_Staff_l2_step s5 b0 b0_1 l3c0 l3c1) (fun h => made_Dice_Staff_l2 h.1 h.2.1 h.2.2.1 h.2.2.2.1 h.2.2.2.2) := loopOpt_eq _ _

def made_Dice_Staff_l6_step (s7 : Int) (s9 : Int) (s10 : Int) (b0 : (List Int)) (b0_1 : Int) (b8 : ByteArray) (b8_1 : Int) (l3c0 : (List (ByteArray × (Int × (List (Int × (Int × (Int × (Int × (Int × (Int × Int))))))))))) (l3c1 : (List (ByteArray × (Int × ((List (Int × Int)) × (Int × (Int × Bool))))))) (l3c2 : (List (ByteArray × (Int × (List Int))))) (l8c2 : (List Int)) : Option ((Int × Int × Int × (List Int) × Int × ByteArray × Int × (List (ByteArray × (Int × (List (Int × (Int × (Int × (Int × (Int × (Int × Int)))))))))) × (List (ByteArray × (Int × ((List (Int × Int)) × (Int × (Int × Bool)))))) × (List (ByteArray × (Int × (List Int)))) × (List Int)) ⊕ ((Int × (List Int) × Int × ByteArray × Int × (List (ByteArray × (Int × (List (Int × (Int × (Int × (Int × (Int × (Int × Int)))))))))) × (List (ByteArray × (Int × ((List (Int × Int)) × (Int × (Int × Bool)))))) × (List (ByteArray × (Int × (List Int)))) × (List Int)))) :=
  cond (decide (s9 > (0 : Int))) (
  (made_Dice_Next b0 b0_1 (6 : Int)).bind fun r93_5 =>
  let t94_5 : Int := (w64 ((1 : Int) + r93_5.1))
  let t95_5 : Int := (w64 (s10 + t94_5))
  cond (decide (List.length l8c2 + List.length [t95_5] ≤ sizeMax)) (
  let t100_5 : (List Int) := (l8c2 ++ [t95_5])
  let t90_5 : Int := (w64 (s9 - (1 : Int)))
  some (.inl (s7, t90_5, t95_5, r93_5.2.1, r93_5.2.2, b8, b8_1, l3c0, l3c1, l3c2, t100_5))) none) (
  some (.inr (s7, b0, b0_1, b8, b8_1, l3c0, l3c1, l3c2, l8c2)))

def made_Dice_Staff_l6 (s7 : Int) (s9 : Int) (s10 : Int) (b0 : (List Int)) (b0_1 : Int) (b8 : ByteArray) (b8_1 : Int) (l3c0 : (List (ByteArray × (Int × (List (Int × (Int × (Int × (Int × (Int × (Int × Int))))))))))) (l3c1 : (List (ByteArray × (Int × ((List (Int × Int)) × (Int × (Int × Bool))))))) (l3c2 : (List (ByteArray × (Int × (List Int))))) (l8c2 : (List Int)) : Option ((Int × (List Int) × Int × ByteArray × Int × (List (ByteArray × (Int × (List (Int × (Int × (Int × (Int × (Int × (Int × Int)))))))))) × (List (ByteArray × (Int × ((List (Int × Int)) × (Int × (Int × Bool)))))) × (List (ByteArray × (Int × (List Int)))) × (List Int))) :=
  loopOpt (fun h : Int × Int × Int × (List Int) × Int × ByteArray × Int × (List (ByteArray × (Int × (List (Int × (Int × (Int × (Int × (Int × (Int × Int)))))))))) × (List (ByteArray × (Int × ((List (Int × Int)) × (Int × (Int × Bool)))))) × (List (ByteArray × (Int × (List Int)))) × (List Int) => made_Dice_Staff_l6_step h.1 h.2.1 h.2.2.1 h.2.2.2.1 h.2.2.2.2.1 h.2.2.2.2.2.1 h.2.2.2.2.2.2.1 h.2.2.2.2.2.2.2.1 h.2.2.2.2.2.2.2.2.1 h.2.2.2.2.2.2.2.2.2.1 h.2.2.2.2.2.2.2.2.2.2) (s7, s9, s10, b0, b0_1, b8, b8_1, l3c0, l3c1, l3c2, l8c2)

theorem made_Dice_Staff_l6_eq (s7 : Int) (s9 : Int) (s10 : Int) (b0 : (List Int)) (b0_1 : Int) (b8 : ByteArray) (b8_1 : Int) (l3c0 : (List (ByteArray × (Int × (List (Int × (Int × (Int × (Int × (Int × (Int × Int))))))))))) (l3c1 : (List (ByteArray × (Int × ((List (Int × Int)) × (Int × (Int × Bool))))))) (l3c2 : (List (ByteArray × (Int × (List Int))))) (l8c2 : (List Int)) : made_Dice_Staff_l6 s7 s9 s10 b0 b0_1 b8 b8_1 l3c0 l3c1 l3c2 l8c2 = lpK (made_Dice_Staff_l6_step s7 s9 s10 b0 b0_1 b8 b8_1 l3c0 l3c1 l3c2 l8c2) (fun h => made_Dice_Staff_l6 h.1 h.2.1 h.2.2.1 h.2.2.2.1 h.2.2.2.2.1 h.2.2.2.2.2.1 h.2.2.2.2.2.2.1 h.2.2.2.2.2.2.2.1 h.2.2.2.2.2.2.2.2.1 h.2.2.2.2.2.2.2.2.2.1 h.2.2.2.2.2.2.2.2.2.2) := loopOpt_eq _ _

def made_Dice_Staff_l4_step (s7 : Int) (b0 : (List Int)) (b0_1 : Int) (l3c0 : (List (ByteArray × (Int × (List (Int × (Int × (Int × (Int × (Int × (Int × Int))))))))))) (l3c1 : (List (ByteArray × (Int × ((List (Int × Int)) × (Int × (Int × Bool))))))) (l3c2 : (List (ByteArray × (Int × (List Int))))) : Option ((Int × (List Int) × Int × (List (ByteArray × (Int × (List (Int × (Int × (Int × (Int × (Int × (Int × Int)))))))))) × (List (ByteArray × (Int × ((List (Int × Int)) × (Int × (Int × Bool)))))) × (List (ByteArray × (Int × (List Int))))) ⊕ (((List Int) × Int × (List (ByteArray × (Int × (List (Int × (Int × (Int × (Int × (Int × (Int × Int)))))))))) × (List (ByteArray × (Int × ((List (Int × Int)) × (Int × (Int × Bool)))))) × (List (ByteArray × (Int × (List Int))))))) :=
  cond (decide (s7 > (0 : Int))) (
  let t82_2 : Int := (Int.ofNat (List.length l3c0))
  (made_Dice_Next b0 b0_1 t82_2).bind fun r83_2 =>
  (made_Dice_Next r83_2.2.1 r83_2.2.2 (4 : Int)).bind fun r86_2 =>
  (made_Dice_Staff_l6 s7 r86_2.1 (20454 : Int) r86_2.2.1 r86_2.2.2 (ByteArray.mk #[100, 97, 121, 115]) r83_2.1 l3c0 l3c1 l3c2 ([] : (List Int))).bind fun q6_2 =>
  let t105_2 : (List (ByteArray × (Int × (List Int)))) := [(q6_2.2.2.2.1, (q6_2.2.2.2.2.1, q6_2.2.2.2.2.2.2.2.2))]
  cond (decide (List.length q6_2.2.2.2.2.2.2.2.1 + List.length t105_2 ≤ sizeMax)) (
  let t106_2 : (List (ByteArray × (Int × (List Int)))) := (q6_2.2.2.2.2.2.2.2.1 ++ t105_2)
  let t78_2 : Int := (w64 (q6_2.1 - (1 : Int)))
  some (.inl (t78_2, q6_2.2.1, q6_2.2.2.1, q6_2.2.2.2.2.2.1, q6_2.2.2.2.2.2.2.1, t106_2))) none) (
  some (.inr (b0, b0_1, l3c0, l3c1, l3c2)))

def made_Dice_Staff_l4 (s7 : Int) (b0 : (List Int)) (b0_1 : Int) (l3c0 : (List (ByteArray × (Int × (List (Int × (Int × (Int × (Int × (Int × (Int × Int))))))))))) (l3c1 : (List (ByteArray × (Int × ((List (Int × Int)) × (Int × (Int × Bool))))))) (l3c2 : (List (ByteArray × (Int × (List Int))))) : Option (((List Int) × Int × (List (ByteArray × (Int × (List (Int × (Int × (Int × (Int × (Int × (Int × Int)))))))))) × (List (ByteArray × (Int × ((List (Int × Int)) × (Int × (Int × Bool)))))) × (List (ByteArray × (Int × (List Int)))))) :=
  loopOpt (fun h : Int × (List Int) × Int × (List (ByteArray × (Int × (List (Int × (Int × (Int × (Int × (Int × (Int × Int)))))))))) × (List (ByteArray × (Int × ((List (Int × Int)) × (Int × (Int × Bool)))))) × (List (ByteArray × (Int × (List Int)))) => made_Dice_Staff_l4_step h.1 h.2.1 h.2.2.1 h.2.2.2.1 h.2.2.2.2.1 h.2.2.2.2.2) (s7, b0, b0_1, l3c0, l3c1, l3c2)

theorem made_Dice_Staff_l4_eq (s7 : Int) (b0 : (List Int)) (b0_1 : Int) (l3c0 : (List (ByteArray × (Int × (List (Int × (Int × (Int × (Int × (Int × (Int × Int))))))))))) (l3c1 : (List (ByteArray × (Int × ((List (Int × Int)) × (Int × (Int × Bool))))))) (l3c2 : (List (ByteArray × (Int × (List Int))))) : made_Dice_Staff_l4 s7 b0 b0_1 l3c0 l3c1 l3c2 = lpK (made_Dice_Staff_l4_step s7 b0 b0_1 l3c0 l3c1 l3c2) (fun h => made_Dice_Staff_l4 h.1 h.2.1 h.2.2.1 h.2.2.2.1 h.2.2.2.2.1 h.2.2.2.2.2) := loopOpt_eq _ _

def made_Dice_Staff (a0_d : (List Int)) (a0_d_1 : Int) : Option (((List (ByteArray × (Int × (List (Int × (Int × (Int × (Int × (Int × (Int × Int)))))))))) × ((List (ByteArray × (Int × ((List (Int × Int)) × (Int × (Int × Bool)))))) × ((List (ByteArray × (Int × (List Int)))) × (List (ByteArray × ((List (ByteArray × (Int × ((Int × Int) × (Int × (Int × ((List Int) × ((List (Int × Int)) × (Int × Int))))))))) × (List (Int × (Int × (Int × (Int × Int))))))))))) × (List Int) × Int) :=
  (made_Dice_Next a0_d a0_d_1 (2 : Int)).bind fun r12 =>
  let t13 : Int := (w64 ((1 : Int) + r12.1))
  (made_Dice_Staff_l0 t13 r12.2.1 r12.2.2 ([] : (List (ByteArray × (Int × (List (Int × (Int × (Int × (Int × (Int × (Int × Int)))))))))))).bind fun q0 =>
  (made_Dice_Next q0.1 q0.2.1 (4 : Int)).bind fun r32 =>
  let t33 : Int := (w64 ((1 : Int) + r32.1))
  (made_Dice_Staff_l2 t33 r32.2.1 r32.2.2 q0.2.2 ([] : (List (ByteArray × (Int × ((List (Int × Int)) × (Int × (Int × Bool)))))))).bind fun q2 =>
  (made_Dice_Next q2.1 q2.2.1 (2 : Int)).bind fun r74 =>
  (made_Dice_Staff_l4 r74.1 r74.2.1 r74.2.2 q2.2.2.1 q2.2.2.2 ([] : (List (ByteArray × (Int × (List Int)))))).bind fun q4 =>
  some ((q4.2.2.1, (q4.2.2.2.1, (q4.2.2.2.2, ([] : (List (ByteArray × ((List (ByteArray × (Int × ((Int × Int) × (Int × (Int × ((List Int) × ((List (Int × Int)) × (Int × Int))))))))) × (List (Int × (Int × (Int × (Int × Int)))))))))))), q4.1, q4.2.1)

def made_Dice_Layer_l0_step (s8 : Int) (b0 : (List Int)) (b0_1 : Int) (b4 : (List (ByteArray × (Int × (List (Int × (Int × (Int × (Int × (Int × (Int × Int))))))))))) (b4_1 : (List (ByteArray × (Int × ((List (Int × Int)) × (Int × (Int × Bool))))))) (b4_2 : (List (ByteArray × (Int × (List Int))))) (b4_3 : (List (ByteArray × ((List (ByteArray × (Int × ((Int × Int) × (Int × (Int × ((List Int) × ((List (Int × Int)) × (Int × Int))))))))) × (List (Int × (Int × (Int × (Int × Int))))))))) (b6 : ByteArray) (b6_1 : Int) (b6_2 : Int) (b6_3 : Int) (b6_4 : Int) (b6_5 : Int) (b6_6 : Int) (b6_7 : Int) (b7 : ByteArray) (b7_1 : Int) (b7_2 : Int) (b7_3 : Int) (b7_4 : Int) (b7_5 : Int) (b7_6 : Int) (b7_7 : Int) (l7c6 : (List Int)) : Option ((Int × (List Int) × Int × (List (ByteArray × (Int × (List (Int × (Int × (Int × (Int × (Int × (Int × Int)))))))))) × (List (ByteArray × (Int × ((List (Int × Int)) × (Int × (Int × Bool)))))) × (List (ByteArray × (Int × (List Int)))) × (List (ByteArray × ((List (ByteArray × (Int × ((Int × Int) × (Int × (Int × ((List Int) × ((List (Int × Int)) × (Int × Int))))))))) × (List (Int × (Int × (Int × (Int × Int)))))))) × ByteArray × Int × Int × Int × Int × Int × Int × Int × ByteArray × Int × Int × Int × Int × Int × Int × Int × (List Int)) ⊕ (((List Int) × Int × (List (ByteArray × (Int × (List (Int × (Int × (Int × (Int × (Int × (Int × Int)))))))))) × (List (ByteArray × (Int × ((List (Int × Int)) × (Int × (Int × Bool)))))) × (List (ByteArray × (Int × (List Int)))) × (List (ByteArray × ((List (ByteArray × (Int × ((Int × Int) × (Int × (Int × ((List Int) × ((List (Int × Int)) × (Int × Int))))))))) × (List (Int × (Int × (Int × (Int × Int)))))))) × ByteArray × Int × Int × Int × Int × Int × Int × Int × ByteArray × Int × Int × Int × Int × Int × Int × Int × (List Int)))) :=
  cond (decide (s8 > (0 : Int))) (
  let t48_2 : Int := (Int.ofNat (List.length b4_1))
  (made_Dice_Next b0 b0_1 t48_2).bind fun r49_2 =>
  cond (decide (List.length l7c6 + List.length [r49_2.1] ≤ sizeMax)) (
  let t51_2 : (List Int) := (l7c6 ++ [r49_2.1])
  let t42_2 : Int := (w64 (s8 - (1 : Int)))
  some (.inl (t42_2, r49_2.2.1, r49_2.2.2, b4, b4_1, b4_2, b4_3, b6, b6_1, b6_2, b6_3, b6_4, b6_5, b6_6, b6_7, b7, b7_1, b7_2, b7_3, b7_4, b7_5, b7_6, b7_7, t51_2))) none) (
  some (.inr (b0, b0_1, b4, b4_1, b4_2, b4_3, b6, b6_1, b6_2, b6_3, b6_4, b6_5, b6_6, b6_7, b7, b7_1, b7_2, b7_3, b7_4, b7_5, b7_6, b7_7, l7c6)))

def made_Dice_Layer_l0 (s8 : Int) (b0 : (List Int)) (b0_1 : Int) (b4 : (List (ByteArray × (Int × (List (Int × (Int × (Int × (Int × (Int × (Int × Int))))))))))) (b4_1 : (List (ByteArray × (Int × ((List (Int × Int)) × (Int × (Int × Bool))))))) (b4_2 : (List (ByteArray × (Int × (List Int))))) (b4_3 : (List (ByteArray × ((List (ByteArray × (Int × ((Int × Int) × (Int × (Int × ((List Int) × ((List (Int × Int)) × (Int × Int))))))))) × (List (Int × (Int × (Int × (Int × Int))))))))) (b6 : ByteArray) (b6_1 : Int) (b6_2 : Int) (b6_3 : Int) (b6_4 : Int) (b6_5 : Int) (b6_6 : Int) (b6_7 : Int) (b7 : ByteArray) (b7_1 : Int) (b7_2 : Int) (b7_3 : Int) (b7_4 : Int) (b7_5 : Int) (b7_6 : Int) (b7_7 : Int) (l7c6 : (List Int)) : Option (((List Int) × Int × (List (ByteArray × (Int × (List (Int × (Int × (Int × (Int × (Int × (Int × Int)))))))))) × (List (ByteArray × (Int × ((List (Int × Int)) × (Int × (Int × Bool)))))) × (List (ByteArray × (Int × (List Int)))) × (List (ByteArray × ((List (ByteArray × (Int × ((Int × Int) × (Int × (Int × ((List Int) × ((List (Int × Int)) × (Int × Int))))))))) × (List (Int × (Int × (Int × (Int × Int)))))))) × ByteArray × Int × Int × Int × Int × Int × Int × Int × ByteArray × Int × Int × Int × Int × Int × Int × Int × (List Int))) :=
  loopOpt (fun h : Int × (List Int) × Int × (List (ByteArray × (Int × (List (Int × (Int × (Int × (Int × (Int × (Int × Int)))))))))) × (List (ByteArray × (Int × ((List (Int × Int)) × (Int × (Int × Bool)))))) × (List (ByteArray × (Int × (List Int)))) × (List (ByteArray × ((List (ByteArray × (Int × ((Int × Int) × (Int × (Int × ((List Int) × ((List (Int × Int)) × (Int × Int))))))))) × (List (Int × (Int × (Int × (Int × Int)))))))) × ByteArray × Int × Int × Int × Int × Int × Int × Int × ByteArray × Int × Int × Int × Int × Int × Int × Int × (List Int) => made_Dice_Layer_l0_step h.1 h.2.1 h.2.2.1 h.2.2.2.1 h.2.2.2.2.1 h.2.2.2.2.2.1 h.2.2.2.2.2.2.1 h.2.2.2.2.2.2.2.1 h.2.2.2.2.2.2.2.2.1 h.2.2.2.2.2.2.2.2.2.1 h.2.2.2.2.2.2.2.2.2.2.1 h.2.2.2.2.2.2.2.2.2.2.2.1 h.2.2.2.2.2.2.2.2.2.2.2.2.1 h.2.2.2.2.2.2.2.2.2.2.2.2.2.1 h.2.2.2.2.2.2.2.2.2.2.2.2.2.2.1 h.2.2.2.2.2.2.2.2.2.2.2.2.2.2.2.1 h.2.2.2.2.2.2.2.2.2.2.2.2.2.2.2.2.1 h.2.2.2.2.2.2.2.2.2.2.2.2.2.2.2.2.2.1 h.2.2.2.2.2.2.2.2.2.2.2.2.2.2.2.2.2.2.1 h.2.2.2.2.2.2.2.2.2.2.2.2.2.2.2.2.2.2.2.1 h.2.2.2.2.2.2.2.2.2.2.2.2.2.2.2.2.2.2.2.2.1 h.2.2.2.2.2.2.2.2.2.2.2.2.2.2.2.2.2.2.2.2.2.1 h.2.2.2.2.2.2.2.2.2.2.2.2.2.2.2.2.2.2.2.2.2.2.1 h.2.2.2.2.2.2.2.2.2.2.2.2.2.2.2.2.2.2.2.2.2.2.2) (s8, b0, b0_1, b4, b4_1, b4_2, b4_3, b6, b6_1, b6_2, b6_3, b6_4, b6_5, b6_6, b6_7, b7, b7_1, b7_2, b7_3, b7_4, b7_5, b7_6, b7_7, l7c6)

theorem made_Dice_Layer_l0_eq (s8 : Int) (b0 : (List Int)) (b0_1 : Int) (b4 : (List (ByteArray × (Int × (List (Int × (Int × (Int × (Int × (Int × (Int × Int))))))))))) (b4_1 : (List (ByteArray × (Int × ((List (Int × Int)) × (Int × (Int × Bool))))))) (b4_2 : (List (ByteArray × (Int × (List Int))))) (b4_3 : (List (ByteArray × ((List (ByteArray × (Int × ((Int × Int) × (Int × (Int × ((List Int) × ((List (Int × Int)) × (Int × Int))))))))) × (List (Int × (Int × (Int × (Int × Int))))))))) (b6 : ByteArray) (b6_1 : Int) (b6_2 : Int) (b6_3 : Int) (b6_4 : Int) (b6_5 : Int) (b6_6 : Int) (b6_7 : Int) (b7 : ByteArray) (b7_1 : Int) (b7_2 : Int) (b7_3 : Int) (b7_4 : Int) (b7_5 : Int) (b7_6 : Int) (b7_7 : Int) (l7c6 : (List Int)) : made_Dice_Layer_l0 s8 b0 b0_1 b4 b4_1 b4_2 b4_3 b6 b6_1 b6_2 b6_3 b6_4 b6_5 b6_6 b6_7 b7 b7_1 b7_2 b7_3 b7_4 b7_5 b7_6 b7_7 l7c6 = lpK (made_Dice_Layer_l0_step s8 b0 b0_1 b4 b4_1 b4_2 b4_3 b6 b6_1 b6_2 b6_3 b6_4 b6_5 b6_6 b6_7 b7 b7_1 b7_2 b7_3 b7_4 b7_5 b7_6 b7_7 l7c6) (fun h => made_Dice_Layer_l0 h.1 h.2.1 h.2.2.1 h.2.2.2.1 h.2.2.2.2.1 h.2.2.2.2.2.1 h.2.2.2.2.2.2.1 h.2.2.2.2.2.2.2.1 h.2.2.2.2.2.2.2.2.1 h.2.2.2.2.2.2.2.2.2.1 h.2.2.2.2.2.2.2.2.2.2.1 h.2.2.2.2.2.2.2.2.2.2.2.1 h.2.2.2.2.2.2.2.2.2.2.2.2.1 h.2.2.2.2.2.2.2.2.2.2.2.2.2.1 h.2.2.2.2.2.2.2.2.2.2.2.2.2.2.1 h.2.2.2.2.2.2.2.2.2.2.2.2.2.2.2.1 h.2.2.2.2.2.2.2.2.2.2.2.2.2.2.2.2.1 h.2.2.2.2.2.2.2.2.2.2.2.2.2.2.2.2.2.1 h.2.2.2.2.2.2.2.2.2.2.2.2.2.2.2.2.2.2.1 h.2.2.2.2.2.2.2.2.2.2.2.2.2.2.2.2.2.2.2.1 h.2.2.2.2.2.2.2.2.2.2.2.2.2.2.2.2.2.2.2.2.1 h.2.2.2.2.2.2.2.2.2.2.2.2.2.2.2.2.2.2.2.2.2.1 h.2.2.2.2.2.2.2.2.2.2.2.2.2.2.2.2.2.2.2.2.2.2.1 h.2.2.2.2.2.2.2.2.2.2.2.2.2.2.2.2.2.2.2.2.2.2.2) := loopOpt_eq _ _

def made_Dice_Layer (a0_d : (List Int)) (a0_d_1 : Int) (a1_c : ((List (ByteArray × (Int × (List (Int × (Int × (Int × (Int × (Int × (Int × Int)))))))))) × ((List (ByteArray × (Int × ((List (Int × Int)) × (Int × (Int × Bool)))))) × ((List (ByteArray × (Int × (List Int)))) × (List (ByteArray × ((List (ByteArray × (Int × ((Int × Int) × (Int × (Int × ((List Int) × ((List (Int × Int)) × (Int × Int))))))))) × (List (Int × (Int × (Int × (Int × Int)))))))))))) (a2_name : ByteArray) : Option ((ByteArray × (Int × ((Int × Int) × (Int × (Int × ((List Int) × ((List (Int × Int)) × (Int × Int)))))))) × (List Int) × Int) :=
  let t13 : Int := (Int.ofNat (List.length a1_c.1))
  (made_Dice_Next a0_d a0_d_1 t13).bind fun r14 =>
  (made_Dice_Next r14.2.1 r14.2.2 (6 : Int)).bind fun r16 =>
  let t17 : Int := (w64 ((20454 : Int) + r16.1))
  let t18 : Int := (w64 (t17 - (2 : Int)))
  let t20 : (List Int) := [(0 : Int), (32400 : Int), (7200 : Int), (9000 : Int), (79200 : Int), (1 : Int)]
  (made_Dice_Pick r16.2.1 r16.2.2 t20).bind fun r21 =>
  (made_Dice_Next r21.2.1 r21.2.2 (3 : Int)).bind fun r24 =>
  (made_Dice_Next r24.2.1 r24.2.2 (2 : Int)).bind fun r26 =>
  let t27 : Int := (w64 ((1 : Int) + r26.1))
  cond (r24.1 == (0 : Int)) (
  let t33 : (List Int) := [(6 : Int), (8 : Int), (12 : Int), (24 : Int), (23 : Int), (49 : Int)]
  (made_Dice_Pick r26.2.1 r26.2.2 t33).bind fun r34 =>
  (made_Dice_Next r34.2.1 r34.2.2 (3 : Int)).bind fun r37 =>
  let t38 : Int := (w64 ((1 : Int) + r37.1))
  (made_Dice_Layer_l0 t38 r37.2.1 r37.2.2 a1_c.1 a1_c.2.1 a1_c.2.2.1 a1_c.2.2.2 ByteArray.empty (0 : Int) (0 : Int) (0 : Int) (0 : Int) (0 : Int) (0 : Int) (0 : Int) a2_name r14.1 t18 r21.1 r24.1 r34.1 (0 : Int) (0 : Int) ([] : (List Int))).bind fun q0 =>
  (made_Dice_Bool q0.1 q0.2.1 (2 : Int)).bind fun r54 =>
  cond r54.1 (
  (made_Dice_Windows r54.2.1 r54.2.2).bind fun r56 =>
  (made_Dice_Bool r56.2.1 r56.2.2 (4 : Int)).bind fun r59 =>
  let t63 : Int := (Int.ofNat (List.length q0.2.2.2.2.1))
  cond (cond r59.1 (decide (t63 > (0 : Int))) false) (
  let t69 : Int := (Int.ofNat (List.length q0.2.2.2.2.1))
  (made_Dice_Next r59.2.1 r59.2.2 t69).bind fun r70 =>
  (made_Dice_Next r70.2.1 r70.2.2 (2 : Int)).bind fun r72 =>
  let t73 : Int := (w64 ((1 : Int) + r72.1))
  some ((q0.2.2.2.2.2.2.2.2.2.2.2.2.2.2.1, (q0.2.2.2.2.2.2.2.2.2.2.2.2.2.2.2.1, ((q0.2.2.2.2.2.2.2.2.2.2.2.2.2.2.2.2.1, q0.2.2.2.2.2.2.2.2.2.2.2.2.2.2.2.2.2.1), (q0.2.2.2.2.2.2.2.2.2.2.2.2.2.2.2.2.2.2.1, (q0.2.2.2.2.2.2.2.2.2.2.2.2.2.2.2.2.2.2.2.1, (q0.2.2.2.2.2.2.2.2.2.2.2.2.2.2.2.2.2.2.2.2.2.2, (r56.1, (r70.1, t73)))))))), r72.2.1, r72.2.2)) (
  some ((q0.2.2.2.2.2.2.2.2.2.2.2.2.2.2.1, (q0.2.2.2.2.2.2.2.2.2.2.2.2.2.2.2.1, ((q0.2.2.2.2.2.2.2.2.2.2.2.2.2.2.2.2.1, q0.2.2.2.2.2.2.2.2.2.2.2.2.2.2.2.2.2.1), (q0.2.2.2.2.2.2.2.2.2.2.2.2.2.2.2.2.2.2.1, (q0.2.2.2.2.2.2.2.2.2.2.2.2.2.2.2.2.2.2.2.1, (q0.2.2.2.2.2.2.2.2.2.2.2.2.2.2.2.2.2.2.2.2.2.2, (r56.1, (q0.2.2.2.2.2.2.2.2.2.2.2.2.2.2.2.2.2.2.2.2.1, q0.2.2.2.2.2.2.2.2.2.2.2.2.2.2.2.2.2.2.2.2.2.1)))))))), r59.2.1, r59.2.2))) (
  (made_Dice_Bool r54.2.1 r54.2.2 (4 : Int)).bind fun r59_1 =>
  let t63_1 : Int := (Int.ofNat (List.length q0.2.2.2.2.1))
  cond (cond r59_1.1 (decide (t63_1 > (0 : Int))) false) (
  let t69_1 : Int := (Int.ofNat (List.length q0.2.2.2.2.1))
  (made_Dice_Next r59_1.2.1 r59_1.2.2 t69_1).bind fun r70_1 =>
  (made_Dice_Next r70_1.2.1 r70_1.2.2 (2 : Int)).bind fun r72_1 =>
  let t73_1 : Int := (w64 ((1 : Int) + r72_1.1))
  some ((q0.2.2.2.2.2.2.2.2.2.2.2.2.2.2.1, (q0.2.2.2.2.2.2.2.2.2.2.2.2.2.2.2.1, ((q0.2.2.2.2.2.2.2.2.2.2.2.2.2.2.2.2.1, q0.2.2.2.2.2.2.2.2.2.2.2.2.2.2.2.2.2.1), (q0.2.2.2.2.2.2.2.2.2.2.2.2.2.2.2.2.2.2.1, (q0.2.2.2.2.2.2.2.2.2.2.2.2.2.2.2.2.2.2.2.1, (q0.2.2.2.2.2.2.2.2.2.2.2.2.2.2.2.2.2.2.2.2.2.2, (([] : (List (Int × Int))), (r70_1.1, t73_1)))))))), r72_1.2.1, r72_1.2.2)) (
  some ((q0.2.2.2.2.2.2.2.2.2.2.2.2.2.2.1, (q0.2.2.2.2.2.2.2.2.2.2.2.2.2.2.2.1, ((q0.2.2.2.2.2.2.2.2.2.2.2.2.2.2.2.2.1, q0.2.2.2.2.2.2.2.2.2.2.2.2.2.2.2.2.2.1), (q0.2.2.2.2.2.2.2.2.2.2.2.2.2.2.2.2.2.2.1, (q0.2.2.2.2.2.2.2.2.2.2.2.2.2.2.2.2.2.2.2.1, (q0.2.2.2.2.2.2.2.2.2.2.2.2.2.2.2.2.2.2.2.2.2.2, (([] : (List (Int × Int))), (q0.2.2.2.2.2.2.2.2.2.2.2.2.2.2.2.2.2.2.2.2.1, q0.2.2.2.2.2.2.2.2.2.2.2.2.2.2.2.2.2.2.2.2.2.1)))))))), r59_1.2.1, r59_1.2.2)))) (
  (made_Dice_Next r26.2.1 r26.2.2 (3 : Int)).bind fun r37_1 =>
  let t38_1 : Int := (w64 ((1 : Int) + r37_1.1))
  (made_Dice_Layer_l0 t38_1 r37_1.2.1 r37_1.2.2 a1_c.1 a1_c.2.1 a1_c.2.2.1 a1_c.2.2.2 ByteArray.empty (0 : Int) (0 : Int) (0 : Int) (0 : Int) (0 : Int) (0 : Int) (0 : Int) a2_name r14.1 t18 r21.1 r24.1 t27 (0 : Int) (0 : Int) ([] : (List Int))).bind fun q0_1 =>
  (made_Dice_Bool q0_1.1 q0_1.2.1 (2 : Int)).bind fun r54_1 =>
  cond r54_1.1 (
  (made_Dice_Windows r54_1.2.1 r54_1.2.2).bind fun r56_1 =>
  (made_Dice_Bool r56_1.2.1 r56_1.2.2 (4 : Int)).bind fun r59_2 =>
  let t63_2 : Int := (Int.ofNat (List.length q0_1.2.2.2.2.1))
  cond (cond r59_2.1 (decide (t63_2 > (0 : Int))) false) (
  let t69_2 : Int := (Int.ofNat (List.length q0_1.2.2.2.2.1))
  (made_Dice_Next r59_2.2.1 r59_2.2.2 t69_2).bind fun r70_2 =>
  (made_Dice_Next r70_2.2.1 r70_2.2.2 (2 : Int)).bind fun r72_2 =>
  let t73_2 : Int := (w64 ((1 : Int) + r72_2.1))
  some ((q0_1.2.2.2.2.2.2.2.2.2.2.2.2.2.2.1, (q0_1.2.2.2.2.2.2.2.2.2.2.2.2.2.2.2.1, ((q0_1.2.2.2.2.2.2.2.2.2.2.2.2.2.2.2.2.1, q0_1.2.2.2.2.2.2.2.2.2.2.2.2.2.2.2.2.2.1), (q0_1.2.2.2.2.2.2.2.2.2.2.2.2.2.2.2.2.2.2.1, (q0_1.2.2.2.2.2.2.2.2.2.2.2.2.2.2.2.2.2.2.2.1, (q0_1.2.2.2.2.2.2.2.2.2.2.2.2.2.2.2.2.2.2.2.2.2.2, (r56_1.1, (r70_2.1, t73_2)))))))), r72_2.2.1, r72_2.2.2)) (
  some ((q0_1.2.2.2.2.2.2.2.2.2.2.2.2.2.2.1, (q0_1.2.2.2.2.2.2.2.2.2.2.2.2.2.2.2.1, ((q0_1.2.2.2.2.2.2.2.2.2.2.2.2.2.2.2.2.1, q0_1.2.2.2.2.2.2.2.2.2.2.2.2.2.2.2.2.2.1), (q0_1.2.2.2.2.2.2.2.2.2.2.2.2.2.2.2.2.2.2.1, (q0_1.2.2.2.2.2.2.2.2.2.2.2.2.2.2.2.2.2.2.2.1, (q0_1.2.2.2.2.2.2.2.2.2.2.2.2.2.2.2.2.2.2.2.2.2.2, (r56_1.1, (q0_1.2.2.2.2.2.2.2.2.2.2.2.2.2.2.2.2.2.2.2.2.1, q0_1.2.2.2.2.2.2.2.2.2.2.2.2.2.2.2.2.2.2.2.2.2.1)))))))), r59_2.2.1, r59_2.2.2))) (
  (made_Dice_Bool r54_1.2.1 r54_1.2.2 (4 : Int)).bind fun r59_3 =>
  let t63_3 : Int := (Int.ofNat (List.length q0_1.2.2.2.2.1))
  cond (cond r59_3.1 (decide (t63_3 > (0 : Int))) false) (
  let t69_3 : Int := (Int.ofNat (List.length q0_1.2.2.2.2.1))
  (made_Dice_Next r59_3.2.1 r59_3.2.2 t69_3).bind fun r70_3 =>
  (made_Dice_Next r70_3.2.1 r70_3.2.2 (2 : Int)).bind fun r72_3 =>
  let t73_3 : Int := (w64 ((1 : Int) + r72_3.1))
  some ((q0_1.2.2.2.2.2.2.2.2.2.2.2.2.2.2.1, (q0_1.2.2.2.2.2.2.2.2.2.2.2.2.2.2.2.1, ((q0_1.2.2.2.2.2.2.2.2.2.2.2.2.2.2.2.2.1, q0_1.2.2.2.2.2.2.2.2.2.2.2.2.2.2.2.2.2.1), (q0_1.2.2.2.2.2.2.2.2.2.2.2.2.2.2.2.2.2.2.1, (q0_1.2.2.2.2.2.2.2.2.2.2.2.2.2.2.2.2.2.2.2.1, (q0_1.2.2.2.2.2.2.2.2.2.2.2.2.2.2.2.2.2.2.2.2.2.2, (([] : (List (Int × Int))), (r70_3.1, t73_3)))))))), r72_3.2.1, r72_3.2.2)) (
  some ((q0_1.2.2.2.2.2.2.2.2.2.2.2.2.2.2.1, (q0_1.2.2.2.2.2.2.2.2.2.2.2.2.2.2.2.1, ((q0_1.2.2.2.2.2.2.2.2.2.2.2.2.2.2.2.2.1, q0_1.2.2.2.2.2.2.2.2.2.2.2.2.2.2.2.2.2.1), (q0_1.2.2.2.2.2.2.2.2.2.2.2.2.2.2.2.2.2.2.1, (q0_1.2.2.2.2.2.2.2.2.2.2.2.2.2.2.2.2.2.2.2.1, (q0_1.2.2.2.2.2.2.2.2.2.2.2.2.2.2.2.2.2.2.2.2.2.2, (([] : (List (Int × Int))), (q0_1.2.2.2.2.2.2.2.2.2.2.2.2.2.2.2.2.2.2.2.2.1, q0_1.2.2.2.2.2.2.2.2.2.2.2.2.2.2.2.2.2.2.2.2.2.1)))))))), r59_3.2.1, r59_3.2.2))))

def law10_odd (a0_d : (List Int)) (a0_d_1 : Int) (a1_l : (ByteArray × (Int × ((Int × Int) × (Int × (Int × ((List Int) × ((List (Int × Int)) × (Int × Int))))))))) : Option ((ByteArray × (Int × ((Int × Int) × (Int × (Int × ((List Int) × ((List (Int × Int)) × (Int × Int)))))))) × (List Int) × Int) :=
  (made_Dice_Next a0_d a0_d_1 (6 : Int)).bind fun r6 =>
  cond (r6.1 == (0 : Int)) (
  let t10 : (List Int) := [(0 : Int), (1 : Int), (100000 : Int), (100001 : Int), (99000 : Int)]
  (made_Dice_Pick r6.2.1 r6.2.2 t10).bind fun r11 =>
  some ((a1_l.1, (a1_l.2.1, ((r11.1, a1_l.2.2.1.2), (a1_l.2.2.2.1, (a1_l.2.2.2.2.1, (a1_l.2.2.2.2.2.1, (a1_l.2.2.2.2.2.2.1, (a1_l.2.2.2.2.2.2.2.1, a1_l.2.2.2.2.2.2.2.2)))))))), r11.2.1, r11.2.2)) (
  cond (r6.1 == (1 : Int)) (
  let t17 : (List Int) := [(-1 : Int), (0 : Int), (86399 : Int), (86400 : Int)]
  (made_Dice_Pick r6.2.1 r6.2.2 t17).bind fun r18 =>
  some ((a1_l.1, (a1_l.2.1, ((a1_l.2.2.1.1, r18.1), (a1_l.2.2.2.1, (a1_l.2.2.2.2.1, (a1_l.2.2.2.2.2.1, (a1_l.2.2.2.2.2.2.1, (a1_l.2.2.2.2.2.2.2.1, a1_l.2.2.2.2.2.2.2.2)))))))), r18.2.1, r18.2.2)) (
  cond (r6.1 == (2 : Int)) (
  let t24 : (List Int) := [(-1 : Int), (0 : Int), (1 : Int), (2 : Int), (3 : Int)]
  (made_Dice_Pick r6.2.1 r6.2.2 t24).bind fun r25 =>
  some ((a1_l.1, (a1_l.2.1, ((a1_l.2.2.1.1, a1_l.2.2.1.2), (r25.1, (a1_l.2.2.2.2.1, (a1_l.2.2.2.2.2.1, (a1_l.2.2.2.2.2.2.1, (a1_l.2.2.2.2.2.2.2.1, a1_l.2.2.2.2.2.2.2.2)))))))), r25.2.1, r25.2.2)) (
  cond (r6.1 == (3 : Int)) (
  let t30 : (List Int) := [(0 : Int), (1 : Int), (400 : Int), (401 : Int)]
  (made_Dice_Pick r6.2.1 r6.2.2 t30).bind fun r31 =>
  some ((a1_l.1, (a1_l.2.1, ((a1_l.2.2.1.1, a1_l.2.2.1.2), (a1_l.2.2.2.1, (r31.1, (a1_l.2.2.2.2.2.1, (a1_l.2.2.2.2.2.2.1, (a1_l.2.2.2.2.2.2.2.1, a1_l.2.2.2.2.2.2.2.2)))))))), r31.2.1, r31.2.2)) (
  cond (r6.1 == (4 : Int)) (
  some ((a1_l.1, (a1_l.2.1, ((a1_l.2.2.1.1, a1_l.2.2.1.2), (a1_l.2.2.2.1, (a1_l.2.2.2.2.1, (([] : (List Int)), (a1_l.2.2.2.2.2.2.1, (a1_l.2.2.2.2.2.2.2.1, a1_l.2.2.2.2.2.2.2.2)))))))), r6.2.1, r6.2.2)) (
  some ((a1_l.1, (a1_l.2.1, ((a1_l.2.2.1.1, a1_l.2.2.1.2), (a1_l.2.2.2.1, (a1_l.2.2.2.2.1, (a1_l.2.2.2.2.2.1, (a1_l.2.2.2.2.2.2.1, (a1_l.2.2.2.2.2.2.2.1, a1_l.2.2.2.2.2.2.2.2)))))))), r6.2.1, r6.2.2))))))

def recur_Check (a0_z : (ByteArray × (Int × (List (Int × (Int × (Int × (Int × (Int × (Int × Int)))))))))) (a1_l : (ByteArray × (Int × ((Int × Int) × (Int × (Int × ((List Int) × ((List (Int × Int)) × (Int × Int))))))))) : Option (Int) :=
  (recur_open (a0_z.1, (a0_z.2.1, a0_z.2.2)) (a1_l.1, (a1_l.2.1, ((a1_l.2.2.1.1, a1_l.2.2.1.2), (a1_l.2.2.2.1, (a1_l.2.2.2.2.1, (a1_l.2.2.2.2.2.1, (a1_l.2.2.2.2.2.2.1, (a1_l.2.2.2.2.2.2.2.1, a1_l.2.2.2.2.2.2.2.2))))))))).bind fun r10 =>
  cond (!r10.2) (
  some (8 : Int)) (
  some (0 : Int))

def r10_Check (a0_z : (ByteArray × (Int × (List (Int × (Int × (Int × (Int × (Int × (Int × Int)))))))))) (a1_l : (ByteArray × (Int × ((Int × Int) × (Int × (Int × ((List Int) × ((List (Int × Int)) × (Int × Int))))))))) : Option (Int) :=
  (r04_Check (a0_z.1, (a0_z.2.1, a0_z.2.2))).bind fun r6 =>
  let t19 : Bool := (cond (cond (r6 != (0 : Int)) true (decide (a1_l.2.2.1.1 < (1 : Int)))) true (decide (a1_l.2.2.1.1 > (100000 : Int))))
  let t31 : Bool := (cond (cond t19 true (decide (a1_l.2.2.1.2 < (0 : Int)))) true (decide (a1_l.2.2.1.2 ≥ (86400 : Int))))
  let t41 : Bool := (cond (cond t31 true (decide (a1_l.2.2.2.1 < (0 : Int)))) true (decide (a1_l.2.2.2.1 > (2 : Int))))
  let t51 : Bool := (cond (cond t41 true (decide (a1_l.2.2.2.2.1 < (1 : Int)))) true (decide (a1_l.2.2.2.2.1 > (400 : Int))))
  let t55 : Int := (Int.ofNat (List.length a1_l.2.2.2.2.2.1))
  cond (cond t51 true (t55 == (0 : Int))) (
  some (8 : Int)) (
  some (0 : Int))

def r10_handover (a0_z : (ByteArray × (Int × (List (Int × (Int × (Int × (Int × (Int × (Int × Int)))))))))) (a1_l : (ByteArray × (Int × ((Int × Int) × (Int × (Int × ((List Int) × ((List (Int × Int)) × (Int × Int))))))))) (a2_k : Int) : Option (Int × Bool) :=
  cond (a1_l.2.2.2.1 == (0 : Int)) (
  (r04_First (a0_z.1, (a0_z.2.1, a0_z.2.2)) (a1_l.2.2.1.1, a1_l.2.2.1.2)).bind fun r21 =>
  let t27 : Int := (w64 (a2_k * a1_l.2.2.2.2.1))
  let t28 : Int := (w64 (t27 * (3600 : Int)))
  let t31 : Int := (w64 (r21.1 + t28))
  let t37 : Int := (w64 (r21.1 + t28))
  some (t31, (cond (r21.2 == (0 : Int)) (decide (t37 ≤ (8589934592 : Int))) false))) (
  let t43 : Int := (w64 (a2_k * a1_l.2.2.2.2.1))
  cond (a1_l.2.2.2.1 == (2 : Int)) (
  let t48 : Int := (w64 (t43 * (7 : Int)))
  let t55 : Int := (w64 (a1_l.2.2.1.1 + t48))
  (r04_First (a0_z.1, (a0_z.2.1, a0_z.2.2)) (t55, a1_l.2.2.1.2)).bind fun r60 =>
  some (r60.1, (r60.2 == (0 : Int)))) (
  let t55_1 : Int := (w64 (a1_l.2.2.1.1 + t43))
  (r04_First (a0_z.1, (a0_z.2.1, a0_z.2.2)) (t55_1, a1_l.2.2.1.2)).bind fun r60_1 =>
  some (r60_1.1, (r60_1.2 == (0 : Int)))))

def r10_Handover (a0_z : (ByteArray × (Int × (List (Int × (Int × (Int × (Int × (Int × (Int × Int)))))))))) (a1_l : (ByteArray × (Int × ((Int × Int) × (Int × (Int × ((List Int) × ((List (Int × Int)) × (Int × Int))))))))) (a2_k : Int) : Option (Int × Int) :=
  (r10_Check (a0_z.1, (a0_z.2.1, a0_z.2.2)) (a1_l.1, (a1_l.2.1, ((a1_l.2.2.1.1, a1_l.2.2.1.2), (a1_l.2.2.2.1, (a1_l.2.2.2.2.1, (a1_l.2.2.2.2.2.1, (a1_l.2.2.2.2.2.2.1, (a1_l.2.2.2.2.2.2.2.1, a1_l.2.2.2.2.2.2.2.2))))))))).bind fun r13 =>
  cond (r13 != (0 : Int)) (
  some ((0 : Int), (8 : Int))) (
  cond (decide (a2_k < (0 : Int))) (
  some ((0 : Int), (1 : Int))) (
  cond (decide (a2_k > (2386092 : Int))) (
  some ((0 : Int), (10 : Int))) (
  (r10_handover (a0_z.1, (a0_z.2.1, a0_z.2.2)) (a1_l.1, (a1_l.2.1, ((a1_l.2.2.1.1, a1_l.2.2.1.2), (a1_l.2.2.2.1, (a1_l.2.2.2.2.1, (a1_l.2.2.2.2.2.1, (a1_l.2.2.2.2.2.2.1, (a1_l.2.2.2.2.2.2.2.1, a1_l.2.2.2.2.2.2.2.2)))))))) a2_k).bind fun r25 =>
  cond (!r25.2) (
  some ((0 : Int), (10 : Int))) (
  some (r25.1, (0 : Int))))))

def made_Dice_Instant (a0_d : (List Int)) (a0_d_1 : Int) : Option (Int × (List Int) × Int) :=
  (made_Dice_Next a0_d a0_d_1 (576 : Int)).bind fun r5 =>
  let t6 : Int := (w64 ((3600 : Int) * r5.1))
  let t7 : Int := (w64 ((1767139200 : Int) + t6))
  (made_Dice_Bool r5.2.1 r5.2.2 (3 : Int)).bind fun r9 =>
  cond r9.1 (
  let t12 : (List Int) := [(-1 : Int), (1 : Int), (1800 : Int), (3599 : Int)]
  (made_Dice_Pick r9.2.1 r9.2.2 t12).bind fun r13 =>
  let t14 : Int := (w64 (t7 + r13.1))
  some (t14, r13.2.1, r13.2.2)) (
  some (t7, r9.2.1, r9.2.2))

def r10_shift_l0_step (s2 : Int) (s7 : Int) (b3 : ByteArray) (b3_1 : Int) (b3_2 : (List (Int × (Int × (Int × (Int × (Int × (Int × Int)))))))) (b4 : ByteArray) (b4_1 : Int) (b4_2 : Int) (b4_3 : Int) (b4_4 : Int) (b4_5 : Int) (b4_6 : (List Int)) (b4_7 : (List (Int × Int))) (b4_8 : Int) (b4_9 : Int) : Option ((Int × Int × ByteArray × Int × (List (Int × (Int × (Int × (Int × (Int × (Int × Int))))))) × ByteArray × Int × Int × Int × Int × Int × (List Int) × (List (Int × Int)) × Int × Int) ⊕ (Int)) :=
  cond (decide (s7 ≥ (0 : Int))) (
  (r10_handover (b3, (b3_1, b3_2)) (b4, (b4_1, ((b4_2, b4_3), (b4_4, (b4_5, (b4_6, (b4_7, (b4_8, b4_9)))))))) s7).bind fun r71_1 =>
  cond (cond r71_1.2 (decide (r71_1.1 ≤ s2)) false) (
  some (.inr s7)) (
  let t66_1 : Int := (w64 (s7 - (1 : Int)))
  some (.inl (s2, t66_1, b3, b3_1, b3_2, b4, b4_1, b4_2, b4_3, b4_4, b4_5, b4_6, b4_7, b4_8, b4_9)))) (
  some (.inr s7))

def r10_shift_l0 (s2 : Int) (s7 : Int) (b3 : ByteArray) (b3_1 : Int) (b3_2 : (List (Int × (Int × (Int × (Int × (Int × (Int × Int)))))))) (b4 : ByteArray) (b4_1 : Int) (b4_2 : Int) (b4_3 : Int) (b4_4 : Int) (b4_5 : Int) (b4_6 : (List Int)) (b4_7 : (List (Int × Int))) (b4_8 : Int) (b4_9 : Int) : Option (Int) :=
  loopOpt (fun h : Int × Int × ByteArray × Int × (List (Int × (Int × (Int × (Int × (Int × (Int × Int))))))) × ByteArray × Int × Int × Int × Int × Int × (List Int) × (List (Int × Int)) × Int × Int => r10_shift_l0_step h.1 h.2.1 h.2.2.1 h.2.2.2.1 h.2.2.2.2.1 h.2.2.2.2.2.1 h.2.2.2.2.2.2.1 h.2.2.2.2.2.2.2.1 h.2.2.2.2.2.2.2.2.1 h.2.2.2.2.2.2.2.2.2.1 h.2.2.2.2.2.2.2.2.2.2.1 h.2.2.2.2.2.2.2.2.2.2.2.1 h.2.2.2.2.2.2.2.2.2.2.2.2.1 h.2.2.2.2.2.2.2.2.2.2.2.2.2.1 h.2.2.2.2.2.2.2.2.2.2.2.2.2.2) (s2, s7, b3, b3_1, b3_2, b4, b4_1, b4_2, b4_3, b4_4, b4_5, b4_6, b4_7, b4_8, b4_9)

theorem r10_shift_l0_eq (s2 : Int) (s7 : Int) (b3 : ByteArray) (b3_1 : Int) (b3_2 : (List (Int × (Int × (Int × (Int × (Int × (Int × Int)))))))) (b4 : ByteArray) (b4_1 : Int) (b4_2 : Int) (b4_3 : Int) (b4_4 : Int) (b4_5 : Int) (b4_6 : (List Int)) (b4_7 : (List (Int × Int))) (b4_8 : Int) (b4_9 : Int) : r10_shift_l0 s2 s7 b3 b3_1 b3_2 b4 b4_1 b4_2 b4_3 b4_4 b4_5 b4_6 b4_7 b4_8 b4_9 = lpK (r10_shift_l0_step s2 s7 b3 b3_1 b3_2 b4 b4_1 b4_2 b4_3 b4_4 b4_5 b4_6 b4_7 b4_8 b4_9) (fun h => r10_shift_l0 h.1 h.2.1 h.2.2.1 h.2.2.2.1 h.2.2.2.2.1 h.2.2.2.2.2.1 h.2.2.2.2.2.2.1 h.2.2.2.2.2.2.2.1 h.2.2.2.2.2.2.2.2.1 h.2.2.2.2.2.2.2.2.2.1 h.2.2.2.2.2.2.2.2.2.2.1 h.2.2.2.2.2.2.2.2.2.2.2.1 h.2.2.2.2.2.2.2.2.2.2.2.2.1 h.2.2.2.2.2.2.2.2.2.2.2.2.2.1 h.2.2.2.2.2.2.2.2.2.2.2.2.2.2) := loopOpt_eq _ _

def r10_shift (a0_z : (ByteArray × (Int × (List (Int × (Int × (Int × (Int × (Int × (Int × Int)))))))))) (a1_l : (ByteArray × (Int × ((Int × Int) × (Int × (Int × ((List Int) × ((List (Int × Int)) × (Int × Int))))))))) (a2_t : Int) : Option (Int) :=
  cond (a1_l.2.2.2.1 == (0 : Int)) (
  (r04_First (a0_z.1, (a0_z.2.1, a0_z.2.2)) (a1_l.2.2.1.1, a1_l.2.2.1.2)).bind fun r22 =>
  cond (cond (r22.2 == (0 : Int)) (decide (r22.1 ≤ a2_t)) false) (
  let t34 : Int := (w64 (a2_t - r22.1))
  let t37 : Int := (w64 ((3600 : Int) * a1_l.2.2.2.2.1))
  cond (!(t37 == 0)) (
  let t38 : Int := (w64 (Int.tdiv t34 t37))
  some t38) none) (
  some (-1 : Int))) (
  (r04_ToLocal (a0_z.1, (a0_z.2.1, a0_z.2.2)) a2_t).bind fun r43 =>
  cond (a1_l.2.2.2.1 == (2 : Int)) (
  let t52 : Int := (w64 (a1_l.2.2.2.2.1 * (7 : Int)))
  let t55 : Int := (w64 (r43.1.1 + (2 : Int)))
  let t59 : Int := (w64 (t55 - a1_l.2.2.1.1))
  let t60 : Int := (if (0 : Int) > t59 then (0 : Int) else t59 : Int)
  cond (!(t52 == 0)) (
  let t62 : Int := (w64 (Int.tdiv t60 t52))
  (r10_shift_l0 a2_t t62 a0_z.1 a0_z.2.1 a0_z.2.2 a1_l.1 a1_l.2.1 a1_l.2.2.1.1 a1_l.2.2.1.2 a1_l.2.2.2.1 a1_l.2.2.2.2.1 a1_l.2.2.2.2.2.1 a1_l.2.2.2.2.2.2.1 a1_l.2.2.2.2.2.2.2.1 a1_l.2.2.2.2.2.2.2.2).bind fun q0 =>
  some q0) none) (
  let t55_1 : Int := (w64 (r43.1.1 + (2 : Int)))
  let t59_1 : Int := (w64 (t55_1 - a1_l.2.2.1.1))
  let t60_1 : Int := (if (0 : Int) > t59_1 then (0 : Int) else t59_1 : Int)
  cond (!(a1_l.2.2.2.2.1 == 0)) (
  let t62_1 : Int := (w64 (Int.tdiv t60_1 a1_l.2.2.2.2.1))
  (r10_shift_l0 a2_t t62_1 a0_z.1 a0_z.2.1 a0_z.2.2 a1_l.1 a1_l.2.1 a1_l.2.2.1.1 a1_l.2.2.1.2 a1_l.2.2.2.1 a1_l.2.2.2.2.1 a1_l.2.2.2.2.2.1 a1_l.2.2.2.2.2.2.1 a1_l.2.2.2.2.2.2.2.1 a1_l.2.2.2.2.2.2.2.2).bind fun q0_1 =>
  some q0_1) none))

def r10_Shift (a0_z : (ByteArray × (Int × (List (Int × (Int × (Int × (Int × (Int × (Int × Int)))))))))) (a1_l : (ByteArray × (Int × ((Int × Int) × (Int × (Int × ((List Int) × ((List (Int × Int)) × (Int × Int))))))))) (a2_t : Int) : Option (Int × Int) :=
  (r10_Check (a0_z.1, (a0_z.2.1, a0_z.2.2)) (a1_l.1, (a1_l.2.1, ((a1_l.2.2.1.1, a1_l.2.2.1.2), (a1_l.2.2.2.1, (a1_l.2.2.2.2.1, (a1_l.2.2.2.2.2.1, (a1_l.2.2.2.2.2.2.1, (a1_l.2.2.2.2.2.2.2.1, a1_l.2.2.2.2.2.2.2.2))))))))).bind fun r10 =>
  cond (r10 != (0 : Int)) (
  some ((0 : Int), (8 : Int))) (
  cond (cond (decide (a2_t < (0 : Int))) true (decide (a2_t > (8589934592 : Int)))) (
  some ((0 : Int), (1 : Int))) (
  (r10_shift (a0_z.1, (a0_z.2.1, a0_z.2.2)) (a1_l.1, (a1_l.2.1, ((a1_l.2.2.1.1, a1_l.2.2.1.2), (a1_l.2.2.2.1, (a1_l.2.2.2.2.1, (a1_l.2.2.2.2.2.1, (a1_l.2.2.2.2.2.2.1, (a1_l.2.2.2.2.2.2.2.1, a1_l.2.2.2.2.2.2.2.2)))))))) a2_t).bind fun r21 =>
  some (r21, (0 : Int))))

def r10_Turn (a0_z : (ByteArray × (Int × (List (Int × (Int × (Int × (Int × (Int × (Int × Int)))))))))) (a1_l : (ByteArray × (Int × ((Int × Int) × (Int × (Int × ((List Int) × ((List (Int × Int)) × (Int × Int))))))))) (a2_t : Int) : Option (Int × Int) :=
  (r10_Shift (a0_z.1, (a0_z.2.1, a0_z.2.2)) (a1_l.1, (a1_l.2.1, ((a1_l.2.2.1.1, a1_l.2.2.1.2), (a1_l.2.2.2.1, (a1_l.2.2.2.2.1, (a1_l.2.2.2.2.2.1, (a1_l.2.2.2.2.2.2.1, (a1_l.2.2.2.2.2.2.2.1, a1_l.2.2.2.2.2.2.2.2)))))))) a2_t).bind fun r14 =>
  cond (cond (r14.2 != (0 : Int)) true (decide (r14.1 < (0 : Int)))) (
  let t24 : Int := (if (0 : Int) < r14.1 then (0 : Int) else r14.1 : Int)
  some (t24, r14.2)) (
  let t29 : Int := (Int.ofNat (List.length a1_l.2.2.2.2.2.1))
  cond (!(t29 == 0)) (
  let t30 : Int := (Int.tmod r14.1 t29)
  some (t30, (0 : Int))) none)

def r05_Range (a0_from : Int) (a1_to : Int) : Option (Bool) :=
  let t15 : Bool := (cond (cond (decide (a0_from ≥ (0 : Int))) (decide (a0_from ≤ (8589934592 : Int))) false) (decide (a1_to ≥ a0_from)) false)
  let t23 : Int := (w64 (a1_to - a0_from))
  let t25 : Bool := (cond (cond t15 (decide (a1_to ≤ (8589934592 : Int))) false) (decide (t23 ≤ (34560000 : Int))) false)
  some t25

def r10_Handovers_l0_step (s2 : Int) (s3 : Int) (s11 : Int) (b4 : ByteArray) (b4_1 : Int) (b4_2 : (List (Int × (Int × (Int × (Int × (Int × (Int × Int)))))))) (b5 : ByteArray) (b5_1 : Int) (b5_2 : Int) (b5_3 : Int) (b5_4 : Int) (b5_5 : Int) (b5_6 : (List Int)) (b5_7 : (List (Int × Int))) (b5_8 : Int) (b5_9 : Int) (l10 : (List Int)) : Option ((Int × Int × Int × ByteArray × Int × (List (Int × (Int × (Int × (Int × (Int × (Int × Int))))))) × ByteArray × Int × Int × Int × Int × Int × (List Int) × (List (Int × Int)) × Int × Int × (List Int)) ⊕ ((Int × (List Int)))) :=
  (r10_handover (b4, (b4_1, b4_2)) (b5, (b5_1, ((b5_2, b5_3), (b5_4, (b5_5, (b5_6, (b5_7, (b5_8, b5_9)))))))) s11).bind fun r31_2 =>
  cond (cond (!r31_2.2) true (decide (r31_2.1 ≥ s3))) (
  some (.inr ((0 : Int), l10))) (
  cond (decide (r31_2.1 ≥ s2)) (
  cond (decide (List.length l10 + List.length [r31_2.1] ≤ sizeMax)) (
  let t48_2 : (List Int) := (l10 ++ [r31_2.1])
  let t50_4 : Int := (w64 (s11 + (1 : Int)))
  some (.inl (s2, s3, t50_4, b4, b4_1, b4_2, b5, b5_1, b5_2, b5_3, b5_4, b5_5, b5_6, b5_7, b5_8, b5_9, t48_2))) none) (
  let t50_5 : Int := (w64 (s11 + (1 : Int)))
  some (.inl (s2, s3, t50_5, b4, b4_1, b4_2, b5, b5_1, b5_2, b5_3, b5_4, b5_5, b5_6, b5_7, b5_8, b5_9, l10))))

def r10_Handovers_l0 (s2 : Int) (s3 : Int) (s11 : Int) (b4 : ByteArray) (b4_1 : Int) (b4_2 : (List (Int × (Int × (Int × (Int × (Int × (Int × Int)))))))) (b5 : ByteArray) (b5_1 : Int) (b5_2 : Int) (b5_3 : Int) (b5_4 : Int) (b5_5 : Int) (b5_6 : (List Int)) (b5_7 : (List (Int × Int))) (b5_8 : Int) (b5_9 : Int) (l10 : (List Int)) : Option ((Int × (List Int))) :=
  loopOpt (fun h : Int × Int × Int × ByteArray × Int × (List (Int × (Int × (Int × (Int × (Int × (Int × Int))))))) × ByteArray × Int × Int × Int × Int × Int × (List Int) × (List (Int × Int)) × Int × Int × (List Int) => r10_Handovers_l0_step h.1 h.2.1 h.2.2.1 h.2.2.2.1 h.2.2.2.2.1 h.2.2.2.2.2.1 h.2.2.2.2.2.2.1 h.2.2.2.2.2.2.2.1 h.2.2.2.2.2.2.2.2.1 h.2.2.2.2.2.2.2.2.2.1 h.2.2.2.2.2.2.2.2.2.2.1 h.2.2.2.2.2.2.2.2.2.2.2.1 h.2.2.2.2.2.2.2.2.2.2.2.2.1 h.2.2.2.2.2.2.2.2.2.2.2.2.2.1 h.2.2.2.2.2.2.2.2.2.2.2.2.2.2.1 h.2.2.2.2.2.2.2.2.2.2.2.2.2.2.2.1 h.2.2.2.2.2.2.2.2.2.2.2.2.2.2.2.2) (s2, s3, s11, b4, b4_1, b4_2, b5, b5_1, b5_2, b5_3, b5_4, b5_5, b5_6, b5_7, b5_8, b5_9, l10)

theorem r10_Handovers_l0_eq (s2 : Int) (s3 : Int) (s11 : Int) (b4 : ByteArray) (b4_1 : Int) (b4_2 : (List (Int × (Int × (Int × (Int × (Int × (Int × Int)))))))) (b5 : ByteArray) (b5_1 : Int) (b5_2 : Int) (b5_3 : Int) (b5_4 : Int) (b5_5 : Int) (b5_6 : (List Int)) (b5_7 : (List (Int × Int))) (b5_8 : Int) (b5_9 : Int) (l10 : (List Int)) : r10_Handovers_l0 s2 s3 s11 b4 b4_1 b4_2 b5 b5_1 b5_2 b5_3 b5_4 b5_5 b5_6 b5_7 b5_8 b5_9 l10 = lpK (r10_Handovers_l0_step s2 s3 s11 b4 b4_1 b4_2 b5 b5_1 b5_2 b5_3 b5_4 b5_5 b5_6 b5_7 b5_8 b5_9 l10) (fun h => r10_Handovers_l0 h.1 h.2.1 h.2.2.1 h.2.2.2.1 h.2.2.2.2.1 h.2.2.2.2.2.1 h.2.2.2.2.2.2.1 h.2.2.2.2.2.2.2.1 h.2.2.2.2.2.2.2.2.1 h.2.2.2.2.2.2.2.2.2.1 h.2.2.2.2.2.2.2.2.2.2.1 h.2.2.2.2.2.2.2.2.2.2.2.1 h.2.2.2.2.2.2.2.2.2.2.2.2.1 h.2.2.2.2.2.2.2.2.2.2.2.2.2.1 h.2.2.2.2.2.2.2.2.2.2.2.2.2.2.1 h.2.2.2.2.2.2.2.2.2.2.2.2.2.2.2.1 h.2.2.2.2.2.2.2.2.2.2.2.2.2.2.2.2) := loopOpt_eq _ _

def r10_Handovers (a0_z : (ByteArray × (Int × (List (Int × (Int × (Int × (Int × (Int × (Int × Int)))))))))) (a1_l : (ByteArray × (Int × ((Int × Int) × (Int × (Int × ((List Int) × ((List (Int × Int)) × (Int × Int))))))))) (a2_from : Int) (a3_to : Int) : Option ((List Int) × Int) :=
  (r10_Check (a0_z.1, (a0_z.2.1, a0_z.2.2)) (a1_l.1, (a1_l.2.1, ((a1_l.2.2.1.1, a1_l.2.2.1.2), (a1_l.2.2.2.1, (a1_l.2.2.2.2.1, (a1_l.2.2.2.2.2.1, (a1_l.2.2.2.2.2.2.1, (a1_l.2.2.2.2.2.2.2.1, a1_l.2.2.2.2.2.2.2.2))))))))).bind fun r16 =>
  cond (r16 != (0 : Int)) (
  some (([] : (List Int)), (8 : Int))) (
  (r05_Range a2_from a3_to).bind fun r20 =>
  cond (!r20) (
  some (([] : (List Int)), (1 : Int))) (
  (r10_shift (a0_z.1, (a0_z.2.1, a0_z.2.2)) (a1_l.1, (a1_l.2.1, ((a1_l.2.2.1.1, a1_l.2.2.1.2), (a1_l.2.2.2.1, (a1_l.2.2.2.2.1, (a1_l.2.2.2.2.2.1, (a1_l.2.2.2.2.2.2.1, (a1_l.2.2.2.2.2.2.2.1, a1_l.2.2.2.2.2.2.2.2)))))))) a2_from).bind fun r25 =>
  let t26 : Int := (if r25 > (0 : Int) then r25 else (0 : Int) : Int)
  (r10_Handovers_l0 a2_from a3_to t26 a0_z.1 a0_z.2.1 a0_z.2.2 a1_l.1 a1_l.2.1 a1_l.2.2.1.1 a1_l.2.2.1.2 a1_l.2.2.2.1 a1_l.2.2.2.2.1 a1_l.2.2.2.2.2.1 a1_l.2.2.2.2.2.2.1 a1_l.2.2.2.2.2.2.2.1 a1_l.2.2.2.2.2.2.2.2 ([] : (List Int))).bind fun q0 =>
  some (q0.2, q0.1)))

def law10_same_l0_step (s0 : (List Int)) (s1 : (List Int)) (s12 : Int) (s13 : Int) : Option (((List Int) × (List Int) × Int × Int) ⊕ (Bool ⊕ Unit)) :=
  cond (decide (s13 < s12)) (
  cond (inR s13 (List.length s0)) (
  let t18_1 : Int := (List.getD s0 (Int.toNat s13) (0 : Int))
  cond (inR s13 (List.length s1)) (
  let t22_1 : Int := (List.getD s1 (Int.toNat s13) (0 : Int))
  cond (t18_1 != t22_1) (
  some (.inr (.inl false))) (
  let t25_1 : Int := (w64 (s13 + (1 : Int)))
  some (.inl (s0, s1, s12, t25_1)))) none) none) (
  some (.inr (.inr ())))

def law10_same_l0 (s0 : (List Int)) (s1 : (List Int)) (s12 : Int) (s13 : Int) : Option (Bool ⊕ Unit) :=
  loopOpt (fun h : (List Int) × (List Int) × Int × Int => law10_same_l0_step h.1 h.2.1 h.2.2.1 h.2.2.2) (s0, s1, s12, s13)

theorem law10_same_l0_eq (s0 : (List Int)) (s1 : (List Int)) (s12 : Int) (s13 : Int) : law10_same_l0 s0 s1 s12 s13 = lpK (law10_same_l0_step s0 s1 s12 s13) (fun h => law10_same_l0 h.1 h.2.1 h.2.2.1 h.2.2.2) := loopOpt_eq _ _

def law10_same (a0_a : (List Int)) (a1_b : (List Int)) : Option (Bool) :=
  let t7 : Int := (Int.ofNat (List.length a0_a))
  let t9 : Int := (Int.ofNat (List.length a1_b))
  cond (t7 != t9) (
  some false) (
  let t12 : Int := (Int.ofNat (List.length a0_a))
  (law10_same_l0 a0_a a1_b t12 (0 : Int)).bind fun q0 =>
  sumC q0 (fun a =>
  some a) (fun b =>
  some true))

def law10_RecurExact_l2_step (s2 : Int) (s3 : Int) (s4 : Int) (s65 : (List (ByteArray × (Int × ((Int × Int) × (Int × (Int × ((List Int) × ((List (Int × Int)) × (Int × Int)))))))))) (s66 : Int) (s82 : (List Int)) (s83 : Int) (b13 : ByteArray) (b13_1 : Int) (b13_2 : (List (Int × (Int × (Int × (Int × (Int × (Int × Int)))))))) (b16 : ByteArray) (b16_1 : Int) (b16_2 : Int) (b16_3 : Int) (b16_4 : Int) (b16_5 : Int) (b16_6 : (List Int)) (b16_7 : (List (Int × Int))) (b16_8 : Int) (b16_9 : Int) (b45 : (List Int)) (b45_1 : Int) : Option ((Int × Int × Int × (List (ByteArray × (Int × ((Int × Int) × (Int × (Int × ((List Int) × ((List (Int × Int)) × (Int × Int))))))))) × Int × (List Int) × Int × ByteArray × Int × (List (Int × (Int × (Int × (Int × (Int × (Int × Int))))))) × ByteArray × Int × Int × Int × Int × Int × (List Int) × (List (Int × Int)) × Int × Int × (List Int) × Int) ⊕ (Bool ⊕ (Int × Int × Int × (List (ByteArray × (Int × ((Int × Int) × (Int × (Int × ((List Int) × ((List (Int × Int)) × (Int × Int))))))))) × Int × ByteArray × Int × (List (Int × (Int × (Int × (Int × (Int × (Int × Int))))))) × ByteArray × Int × Int × Int × Int × Int × (List Int) × (List (Int × Int)) × Int × Int × (List Int) × Int))) :=
  cond (decide (s83 < (4 : Int))) (
  cond (inR s83 4) (
  let t85_1 : Int := (List.getD s82 (Int.toNat s83) (0 : Int))
  (recur_Handover (b13, (b13_1, b13_2)) (b16, (b16_1, ((b16_2, b16_3), (b16_4, (b16_5, (b16_6, (b16_7, (b16_8, b16_9)))))))) t85_1).bind fun r90_1 =>
  (r10_Handover (b13, (b13_1, b13_2)) (b16, (b16_1, ((b16_2, b16_3), (b16_4, (b16_5, (b16_6, (b16_7, (b16_8, b16_9)))))))) t85_1).bind fun r97_1 =>
  cond (cond (r90_1.1 != r97_1.1) true (r90_1.2 != r97_1.2)) (
  some (.inr (.inl false))) (
  let t108_1 : Int := (w64 (s83 + (1 : Int)))
  some (.inl (s2, s3, s4, s65, s66, s82, t108_1, b13, b13_1, b13_2, b16, b16_1, b16_2, b16_3, b16_4, b16_5, b16_6, b16_7, b16_8, b16_9, b45, b45_1)))) none) (
  some (.inr (.inr (s2, s3, s4, s65, s66, b13, b13_1, b13_2, b16, b16_1, b16_2, b16_3, b16_4, b16_5, b16_6, b16_7, b16_8, b16_9, b45, b45_1))))

def law10_RecurExact_l2 (s2 : Int) (s3 : Int) (s4 : Int) (s65 : (List (ByteArray × (Int × ((Int × Int) × (Int × (Int × ((List Int) × ((List (Int × Int)) × (Int × Int)))))))))) (s66 : Int) (s82 : (List Int)) (s83 : Int) (b13 : ByteArray) (b13_1 : Int) (b13_2 : (List (Int × (Int × (Int × (Int × (Int × (Int × Int)))))))) (b16 : ByteArray) (b16_1 : Int) (b16_2 : Int) (b16_3 : Int) (b16_4 : Int) (b16_5 : Int) (b16_6 : (List Int)) (b16_7 : (List (Int × Int))) (b16_8 : Int) (b16_9 : Int) (b45 : (List Int)) (b45_1 : Int) : Option (Bool ⊕ (Int × Int × Int × (List (ByteArray × (Int × ((Int × Int) × (Int × (Int × ((List Int) × ((List (Int × Int)) × (Int × Int))))))))) × Int × ByteArray × Int × (List (Int × (Int × (Int × (Int × (Int × (Int × Int))))))) × ByteArray × Int × Int × Int × Int × Int × (List Int) × (List (Int × Int)) × Int × Int × (List Int) × Int)) :=
  loopOpt (fun h : Int × Int × Int × (List (ByteArray × (Int × ((Int × Int) × (Int × (Int × ((List Int) × ((List (Int × Int)) × (Int × Int))))))))) × Int × (List Int) × Int × ByteArray × Int × (List (Int × (Int × (Int × (Int × (Int × (Int × Int))))))) × ByteArray × Int × Int × Int × Int × Int × (List Int) × (List (Int × Int)) × Int × Int × (List Int) × Int => law10_RecurExact_l2_step h.1 h.2.1 h.2.2.1 h.2.2.2.1 h.2.2.2.2.1 h.2.2.2.2.2.1 h.2.2.2.2.2.2.1 h.2.2.2.2.2.2.2.1 h.2.2.2.2.2.2.2.2.1 h.2.2.2.2.2.2.2.2.2.1 h.2.2.2.2.2.2.2.2.2.2.1 h.2.2.2.2.2.2.2.2.2.2.2.1 h.2.2.2.2.2.2.2.2.2.2.2.2.1 h.2.2.2.2.2.2.2.2.2.2.2.2.2.1 h.2.2.2.2.2.2.2.2.2.2.2.2.2.2.1 h.2.2.2.2.2.2.2.2.2.2.2.2.2.2.2.1 h.2.2.2.2.2.2.2.2.2.2.2.2.2.2.2.2.1 h.2.2.2.2.2.2.2.2.2.2.2.2.2.2.2.2.2.1 h.2.2.2.2.2.2.2.2.2.2.2.2.2.2.2.2.2.2.1 h.2.2.2.2.2.2.2.2.2.2.2.2.2.2.2.2.2.2.2.1 h.2.2.2.2.2.2.2.2.2.2.2.2.2.2.2.2.2.2.2.2.1 h.2.2.2.2.2.2.2.2.2.2.2.2.2.2.2.2.2.2.2.2.2) (s2, s3, s4, s65, s66, s82, s83, b13, b13_1, b13_2, b16, b16_1, b16_2, b16_3, b16_4, b16_5, b16_6, b16_7, b16_8, b16_9, b45, b45_1)

theorem law10_RecurExact_l2_eq (s2 : Int) (s3 : Int) (s4 : Int) (s65 : (List (ByteArray × (Int × ((Int × Int) × (Int × (Int × ((List Int) × ((List (Int × Int)) × (Int × Int)))))))))) (s66 : Int) (s82 : (List Int)) (s83 : Int) (b13 : ByteArray) (b13_1 : Int) (b13_2 : (List (Int × (Int × (Int × (Int × (Int × (Int × Int)))))))) (b16 : ByteArray) (b16_1 : Int) (b16_2 : Int) (b16_3 : Int) (b16_4 : Int) (b16_5 : Int) (b16_6 : (List Int)) (b16_7 : (List (Int × Int))) (b16_8 : Int) (b16_9 : Int) (b45 : (List Int)) (b45_1 : Int) : law10_RecurExact_l2 s2 s3 s4 s65 s66 s82 s83 b13 b13_1 b13_2 b16 b16_1 b16_2 b16_3 b16_4 b16_5 b16_6 b16_7 b16_8 b16_9 b45 b45_1 = lpK (law10_RecurExact_l2_step s2 s3 s4 s65 s66 s82 s83 b13 b13_1 b13_2 b16 b16_1 b16_2 b16_3 b16_4 b16_5 b16_6 b16_7 b16_8 b16_9 b45 b45_1) (fun h => law10_RecurExact_l2 h.1 h.2.1 h.2.2.1 h.2.2.2.1 h.2.2.2.2.1 h.2.2.2.2.2.1 h.2.2.2.2.2.2.1 h.2.2.2.2.2.2.2.1 h.2.2.2.2.2.2.2.2.1 h.2.2.2.2.2.2.2.2.2.1 h.2.2.2.2.2.2.2.2.2.2.1 h.2.2.2.2.2.2.2.2.2.2.2.1 h.2.2.2.2.2.2.2.2.2.2.2.2.1 h.2.2.2.2.2.2.2.2.2.2.2.2.2.1 h.2.2.2.2.2.2.2.2.2.2.2.2.2.2.1 h.2.2.2.2.2.2.2.2.2.2.2.2.2.2.2.1 h.2.2.2.2.2.2.2.2.2.2.2.2.2.2.2.2.1 h.2.2.2.2.2.2.2.2.2.2.2.2.2.2.2.2.2.1 h.2.2.2.2.2.2.2.2.2.2.2.2.2.2.2.2.2.2.1 h.2.2.2.2.2.2.2.2.2.2.2.2.2.2.2.2.2.2.2.1 h.2.2.2.2.2.2.2.2.2.2.2.2.2.2.2.2.2.2.2.2.1 h.2.2.2.2.2.2.2.2.2.2.2.2.2.2.2.2.2.2.2.2.2) := loopOpt_eq _ _

def law10_RecurExact_l4_step (s2 : Int) (s3 : Int) (s4 : Int) (s23 : Int) (s65 : (List (ByteArray × (Int × ((Int × Int) × (Int × (Int × ((List Int) × ((List (Int × Int)) × (Int × Int)))))))))) (s66 : Int) (s113 : (List Int)) (s114 : Int) (b13 : ByteArray) (b13_1 : Int) (b13_2 : (List (Int × (Int × (Int × (Int × (Int × (Int × Int)))))))) (b16 : ByteArray) (b16_1 : Int) (b16_2 : Int) (b16_3 : Int) (b16_4 : Int) (b16_5 : Int) (b16_6 : (List Int)) (b16_7 : (List (Int × Int))) (b16_8 : Int) (b16_9 : Int) (b45 : (List Int)) (b45_1 : Int) : Option ((Int × Int × Int × Int × (List (ByteArray × (Int × ((Int × Int) × (Int × (Int × ((List Int) × ((List (Int × Int)) × (Int × Int))))))))) × Int × (List Int) × Int × ByteArray × Int × (List (Int × (Int × (Int × (Int × (Int × (Int × Int))))))) × ByteArray × Int × Int × Int × Int × Int × (List Int) × (List (Int × Int)) × Int × Int × (List Int) × Int) ⊕ (Bool ⊕ (Int × Int × Int × Int × (List (ByteArray × (Int × ((Int × Int) × (Int × (Int × ((List Int) × ((List (Int × Int)) × (Int × Int))))))))) × Int × ByteArray × Int × (List (Int × (Int × (Int × (Int × (Int × (Int × Int))))))) × ByteArray × Int × Int × Int × Int × Int × (List Int) × (List (Int × Int)) × Int × Int × (List Int) × Int))) :=
  cond (decide (s114 < (4 : Int))) (
  cond (inR s114 4) (
  let t116_1 : Int := (List.getD s113 (Int.toNat s114) (0 : Int))
  (recur_Shift (b13, (b13_1, b13_2)) (b16, (b16_1, ((b16_2, b16_3), (b16_4, (b16_5, (b16_6, (b16_7, (b16_8, b16_9)))))))) t116_1).bind fun r121_1 =>
  (r10_Shift (b13, (b13_1, b13_2)) (b16, (b16_1, ((b16_2, b16_3), (b16_4, (b16_5, (b16_6, (b16_7, (b16_8, b16_9)))))))) t116_1).bind fun r128_1 =>
  (recur_Turn (b13, (b13_1, b13_2)) (b16, (b16_1, ((b16_2, b16_3), (b16_4, (b16_5, (b16_6, (b16_7, (b16_8, b16_9)))))))) t116_1).bind fun r135_1 =>
  (r10_Turn (b13, (b13_1, b13_2)) (b16, (b16_1, ((b16_2, b16_3), (b16_4, (b16_5, (b16_6, (b16_7, (b16_8, b16_9)))))))) t116_1).bind fun r142_1 =>
  let t157 : Bool := (cond (cond (r121_1.1 != r128_1.1) true (r121_1.2 != r128_1.2)) true (r135_1.1 != r142_1.1))
  cond (cond t157 true (r135_1.2 != r142_1.2)) (
  some (.inr (.inl false))) (
  let t163_1 : Int := (w64 (s114 + (1 : Int)))
  some (.inl (s2, s3, s4, s23, s65, s66, s113, t163_1, b13, b13_1, b13_2, b16, b16_1, b16_2, b16_3, b16_4, b16_5, b16_6, b16_7, b16_8, b16_9, b45, b45_1)))) none) (
  some (.inr (.inr (s2, s3, s4, s23, s65, s66, b13, b13_1, b13_2, b16, b16_1, b16_2, b16_3, b16_4, b16_5, b16_6, b16_7, b16_8, b16_9, b45, b45_1))))

def law10_RecurExact_l4 (s2 : Int) (s3 : Int) (s4 : Int) (s23 : Int) (s65 : (List (ByteArray × (Int × ((Int × Int) × (Int × (Int × ((List Int) × ((List (Int × Int)) × (Int × Int)))))))))) (s66 : Int) (s113 : (List Int)) (s114 : Int) (b13 : ByteArray) (b13_1 : Int) (b13_2 : (List (Int × (Int × (Int × (Int × (Int × (Int × Int)))))))) (b16 : ByteArray) (b16_1 : Int) (b16_2 : Int) (b16_3 : Int) (b16_4 : Int) (b16_5 : Int) (b16_6 : (List Int)) (b16_7 : (List (Int × Int))) (b16_8 : Int) (b16_9 : Int) (b45 : (List Int)) (b45_1 : Int) : Option (Bool ⊕ (Int × Int × Int × Int × (List (ByteArray × (Int × ((Int × Int) × (Int × (Int × ((List Int) × ((List (Int × Int)) × (Int × Int))))))))) × Int × ByteArray × Int × (List (Int × (Int × (Int × (Int × (Int × (Int × Int))))))) × ByteArray × Int × Int × Int × Int × Int × (List Int) × (List (Int × Int)) × Int × Int × (List Int) × Int)) :=
  loopOpt (fun h : Int × Int × Int × Int × (List (ByteArray × (Int × ((Int × Int) × (Int × (Int × ((List Int) × ((List (Int × Int)) × (Int × Int))))))))) × Int × (List Int) × Int × ByteArray × Int × (List (Int × (Int × (Int × (Int × (Int × (Int × Int))))))) × ByteArray × Int × Int × Int × Int × Int × (List Int) × (List (Int × Int)) × Int × Int × (List Int) × Int => law10_RecurExact_l4_step h.1 h.2.1 h.2.2.1 h.2.2.2.1 h.2.2.2.2.1 h.2.2.2.2.2.1 h.2.2.2.2.2.2.1 h.2.2.2.2.2.2.2.1 h.2.2.2.2.2.2.2.2.1 h.2.2.2.2.2.2.2.2.2.1 h.2.2.2.2.2.2.2.2.2.2.1 h.2.2.2.2.2.2.2.2.2.2.2.1 h.2.2.2.2.2.2.2.2.2.2.2.2.1 h.2.2.2.2.2.2.2.2.2.2.2.2.2.1 h.2.2.2.2.2.2.2.2.2.2.2.2.2.2.1 h.2.2.2.2.2.2.2.2.2.2.2.2.2.2.2.1 h.2.2.2.2.2.2.2.2.2.2.2.2.2.2.2.2.1 h.2.2.2.2.2.2.2.2.2.2.2.2.2.2.2.2.2.1 h.2.2.2.2.2.2.2.2.2.2.2.2.2.2.2.2.2.2.1 h.2.2.2.2.2.2.2.2.2.2.2.2.2.2.2.2.2.2.2.1 h.2.2.2.2.2.2.2.2.2.2.2.2.2.2.2.2.2.2.2.2.1 h.2.2.2.2.2.2.2.2.2.2.2.2.2.2.2.2.2.2.2.2.2.1 h.2.2.2.2.2.2.2.2.2.2.2.2.2.2.2.2.2.2.2.2.2.2) (s2, s3, s4, s23, s65, s66, s113, s114, b13, b13_1, b13_2, b16, b16_1, b16_2, b16_3, b16_4, b16_5, b16_6, b16_7, b16_8, b16_9, b45, b45_1)

theorem law10_RecurExact_l4_eq (s2 : Int) (s3 : Int) (s4 : Int) (s23 : Int) (s65 : (List (ByteArray × (Int × ((Int × Int) × (Int × (Int × ((List Int) × ((List (Int × Int)) × (Int × Int)))))))))) (s66 : Int) (s113 : (List Int)) (s114 : Int) (b13 : ByteArray) (b13_1 : Int) (b13_2 : (List (Int × (Int × (Int × (Int × (Int × (Int × Int)))))))) (b16 : ByteArray) (b16_1 : Int) (b16_2 : Int) (b16_3 : Int) (b16_4 : Int) (b16_5 : Int) (b16_6 : (List Int)) (b16_7 : (List (Int × Int))) (b16_8 : Int) (b16_9 : Int) (b45 : (List Int)) (b45_1 : Int) : law10_RecurExact_l4 s2 s3 s4 s23 s65 s66 s113 s114 b13 b13_1 b13_2 b16 b16_1 b16_2 b16_3 b16_4 b16_5 b16_6 b16_7 b16_8 b16_9 b45 b45_1 = lpK (law10_RecurExact_l4_step s2 s3 s4 s23 s65 s66 s113 s114 b13 b13_1 b13_2 b16 b16_1 b16_2 b16_3 b16_4 b16_5 b16_6 b16_7 b16_8 b16_9 b45 b45_1) (fun h => law10_RecurExact_l4 h.1 h.2.1 h.2.2.1 h.2.2.2.1 h.2.2.2.2.1 h.2.2.2.2.2.1 h.2.2.2.2.2.2.1 h.2.2.2.2.2.2.2.1 h.2.2.2.2.2.2.2.2.1 h.2.2.2.2.2.2.2.2.2.1 h.2.2.2.2.2.2.2.2.2.2.1 h.2.2.2.2.2.2.2.2.2.2.2.1 h.2.2.2.2.2.2.2.2.2.2.2.2.1 h.2.2.2.2.2.2.2.2.2.2.2.2.2.1 h.2.2.2.2.2.2.2.2.2.2.2.2.2.2.1 h.2.2.2.2.2.2.2.2.2.2.2.2.2.2.2.1 h.2.2.2.2.2.2.2.2.2.2.2.2.2.2.2.2.1 h.2.2.2.2.2.2.2.2.2.2.2.2.2.2.2.2.2.1 h.2.2.2.2.2.2.2.2.2.2.2.2.2.2.2.2.2.2.1 h.2.2.2.2.2.2.2.2.2.2.2.2.2.2.2.2.2.2.2.1 h.2.2.2.2.2.2.2.2.2.2.2.2.2.2.2.2.2.2.2.2.1 h.2.2.2.2.2.2.2.2.2.2.2.2.2.2.2.2.2.2.2.2.2.1 h.2.2.2.2.2.2.2.2.2.2.2.2.2.2.2.2.2.2.2.2.2.2) := loopOpt_eq _ _

def law10_RecurExact_l6_step (s2 : Int) (s3 : Int) (s4 : Int) (s65 : (List (ByteArray × (Int × ((Int × Int) × (Int × (Int × ((List Int) × ((List (Int × Int)) × (Int × Int)))))))))) (s66 : Int) (s175 : (List (List Int))) (s176 : Int) (b13 : ByteArray) (b13_1 : Int) (b13_2 : (List (Int × (Int × (Int × (Int × (Int × (Int × Int)))))))) (b16 : ByteArray) (b16_1 : Int) (b16_2 : Int) (b16_3 : Int) (b16_4 : Int) (b16_5 : Int) (b16_6 : (List Int)) (b16_7 : (List (Int × Int))) (b16_8 : Int) (b16_9 : Int) (b45 : (List Int)) (b45_1 : Int) : Option ((Int × Int × Int × (List (ByteArray × (Int × ((Int × Int) × (Int × (Int × ((List Int) × ((List (Int × Int)) × (Int × Int))))))))) × Int × (List (List Int)) × Int × ByteArray × Int × (List (Int × (Int × (Int × (Int × (Int × (Int × Int))))))) × ByteArray × Int × Int × Int × Int × Int × (List Int) × (List (Int × Int)) × Int × Int × (List Int) × Int) ⊕ (Bool ⊕ (Int × Int × Int × (List (ByteArray × (Int × ((Int × Int) × (Int × (Int × ((List Int) × ((List (Int × Int)) × (Int × Int))))))))) × Int × ByteArray × Int × (List (Int × (Int × (Int × (Int × (Int × (Int × Int))))))) × (List Int) × Int))) :=
  cond (decide (s176 < (3 : Int))) (
  cond (inR s176 3) (
  let t178_1 : (List Int) := (List.getD s175 (Int.toNat s176) (List.replicate 2 (0 : Int)))
  let t35_1 : (List Int) := (List.replicate 2 (0 : Int))
  let t183_1 : Int := (List.getD t178_1 0 (0 : Int))
  let t185_1 : Int := (List.getD t178_1 1 (0 : Int))
  (recur_Handovers (b13, (b13_1, b13_2)) (b16, (b16_1, ((b16_2, b16_3), (b16_4, (b16_5, (b16_6, (b16_7, (b16_8, b16_9)))))))) t183_1 t185_1).bind fun r186_1 =>
  let t193_1 : Int := (List.getD t178_1 0 (0 : Int))
  let t195_1 : Int := (List.getD t178_1 1 (0 : Int))
  (r10_Handovers (b13, (b13_1, b13_2)) (b16, (b16_1, ((b16_2, b16_3), (b16_4, (b16_5, (b16_6, (b16_7, (b16_8, b16_9)))))))) t193_1 t195_1).bind fun r196_1 =>
  (law10_same r186_1.1 r196_1.1).bind fun r201_1 =>
  cond (cond (!r201_1) true (r186_1.2 != r196_1.2)) (
  some (.inr (.inl false))) (
  let t208_1 : Int := (w64 (s176 + (1 : Int)))
  some (.inl (s2, s3, s4, s65, s66, s175, t208_1, b13, b13_1, b13_2, b16, b16_1, b16_2, b16_3, b16_4, b16_5, b16_6, b16_7, b16_8, b16_9, b45, b45_1)))) none) (
  some (.inr (.inr (s2, s3, s4, s65, s66, b13, b13_1, b13_2, b45, b45_1))))

def law10_RecurExact_l6 (s2 : Int) (s3 : Int) (s4 : Int) (s65 : (List (ByteArray × (Int × ((Int × Int) × (Int × (Int × ((List Int) × ((List (Int × Int)) × (Int × Int)))))))))) (s66 : Int) (s175 : (List (List Int))) (s176 : Int) (b13 : ByteArray) (b13_1 : Int) (b13_2 : (List (Int × (Int × (Int × (Int × (Int × (Int × Int)))))))) (b16 : ByteArray) (b16_1 : Int) (b16_2 : Int) (b16_3 : Int) (b16_4 : Int) (b16_5 : Int) (b16_6 : (List Int)) (b16_7 : (List (Int × Int))) (b16_8 : Int) (b16_9 : Int) (b45 : (List Int)) (b45_1 : Int) : Option (Bool ⊕ (Int × Int × Int × (List (ByteArray × (Int × ((Int × Int) × (Int × (Int × ((List Int) × ((List (Int × Int)) × (Int × Int))))))))) × Int × ByteArray × Int × (List (Int × (Int × (Int × (Int × (Int × (Int × Int))))))) × (List Int) × Int)) :=
  loopOpt (fun h : Int × Int × Int × (List (ByteArray × (Int × ((Int × Int) × (Int × (Int × ((List Int) × ((List (Int × Int)) × (Int × Int))))))))) × Int × (List (List Int)) × Int × ByteArray × Int × (List (Int × (Int × (Int × (Int × (Int × (Int × Int))))))) × ByteArray × Int × Int × Int × Int × Int × (List Int) × (List (Int × Int)) × Int × Int × (List Int) × Int => law10_RecurExact_l6_step h.1 h.2.1 h.2.2.1 h.2.2.2.1 h.2.2.2.2.1 h.2.2.2.2.2.1 h.2.2.2.2.2.2.1 h.2.2.2.2.2.2.2.1 h.2.2.2.2.2.2.2.2.1 h.2.2.2.2.2.2.2.2.2.1 h.2.2.2.2.2.2.2.2.2.2.1 h.2.2.2.2.2.2.2.2.2.2.2.1 h.2.2.2.2.2.2.2.2.2.2.2.2.1 h.2.2.2.2.2.2.2.2.2.2.2.2.2.1 h.2.2.2.2.2.2.2.2.2.2.2.2.2.2.1 h.2.2.2.2.2.2.2.2.2.2.2.2.2.2.2.1 h.2.2.2.2.2.2.2.2.2.2.2.2.2.2.2.2.1 h.2.2.2.2.2.2.2.2.2.2.2.2.2.2.2.2.2.1 h.2.2.2.2.2.2.2.2.2.2.2.2.2.2.2.2.2.2.1 h.2.2.2.2.2.2.2.2.2.2.2.2.2.2.2.2.2.2.2.1 h.2.2.2.2.2.2.2.2.2.2.2.2.2.2.2.2.2.2.2.2.1 h.2.2.2.2.2.2.2.2.2.2.2.2.2.2.2.2.2.2.2.2.2) (s2, s3, s4, s65, s66, s175, s176, b13, b13_1, b13_2, b16, b16_1, b16_2, b16_3, b16_4, b16_5, b16_6, b16_7, b16_8, b16_9, b45, b45_1)

theorem law10_RecurExact_l6_eq (s2 : Int) (s3 : Int) (s4 : Int) (s65 : (List (ByteArray × (Int × ((Int × Int) × (Int × (Int × ((List Int) × ((List (Int × Int)) × (Int × Int)))))))))) (s66 : Int) (s175 : (List (List Int))) (s176 : Int) (b13 : ByteArray) (b13_1 : Int) (b13_2 : (List (Int × (Int × (Int × (Int × (Int × (Int × Int)))))))) (b16 : ByteArray) (b16_1 : Int) (b16_2 : Int) (b16_3 : Int) (b16_4 : Int) (b16_5 : Int) (b16_6 : (List Int)) (b16_7 : (List (Int × Int))) (b16_8 : Int) (b16_9 : Int) (b45 : (List Int)) (b45_1 : Int) : law10_RecurExact_l6 s2 s3 s4 s65 s66 s175 s176 b13 b13_1 b13_2 b16 b16_1 b16_2 b16_3 b16_4 b16_5 b16_6 b16_7 b16_8 b16_9 b45 b45_1 = lpK (law10_RecurExact_l6_step s2 s3 s4 s65 s66 s175 s176 b13 b13_1 b13_2 b16 b16_1 b16_2 b16_3 b16_4 b16_5 b16_6 b16_7 b16_8 b16_9 b45 b45_1) (fun h => law10_RecurExact_l6 h.1 h.2.1 h.2.2.1 h.2.2.2.1 h.2.2.2.2.1 h.2.2.2.2.2.1 h.2.2.2.2.2.2.1 h.2.2.2.2.2.2.2.1 h.2.2.2.2.2.2.2.2.1 h.2.2.2.2.2.2.2.2.2.1 h.2.2.2.2.2.2.2.2.2.2.1 h.2.2.2.2.2.2.2.2.2.2.2.1 h.2.2.2.2.2.2.2.2.2.2.2.2.1 h.2.2.2.2.2.2.2.2.2.2.2.2.2.1 h.2.2.2.2.2.2.2.2.2.2.2.2.2.2.1 h.2.2.2.2.2.2.2.2.2.2.2.2.2.2.2.1 h.2.2.2.2.2.2.2.2.2.2.2.2.2.2.2.2.1 h.2.2.2.2.2.2.2.2.2.2.2.2.2.2.2.2.2.1 h.2.2.2.2.2.2.2.2.2.2.2.2.2.2.2.2.2.2.1 h.2.2.2.2.2.2.2.2.2.2.2.2.2.2.2.2.2.2.2.1 h.2.2.2.2.2.2.2.2.2.2.2.2.2.2.2.2.2.2.2.2.1 h.2.2.2.2.2.2.2.2.2.2.2.2.2.2.2.2.2.2.2.2.2) := loopOpt_eq _ _

def law10_RecurExact_l0_step (s2 : Int) (s3 : Int) (s4 : Int) (s65 : (List (ByteArray × (Int × ((Int × Int) × (Int × (Int × ((List Int) × ((List (Int × Int)) × (Int × Int)))))))))) (s66 : Int) (b13 : ByteArray) (b13_1 : Int) (b13_2 : (List (Int × (Int × (Int × (Int × (Int × (Int × Int)))))))) (b45 : (List Int)) (b45_1 : Int) : Option ((Int × Int × Int × (List (ByteArray × (Int × ((Int × Int) × (Int × (Int × ((List Int) × ((List (Int × Int)) × (Int × Int))))))))) × Int × ByteArray × Int × (List (Int × (Int × (Int × (Int × (Int × (Int × Int))))))) × (List Int) × Int) ⊕ (Bool ⊕ Unit)) :=
  cond (decide (s66 < (3 : Int))) (
  cond (inR s66 3) (
  let t68_1 : (ByteArray × (Int × ((Int × Int) × (Int × (Int × ((List Int) × ((List (Int × Int)) × (Int × Int)))))))) := (List.getD s65 (Int.toNat s66) (ByteArray.empty, ((0 : Int), (((0 : Int), (0 : Int)), ((0 : Int), ((0 : Int), (([] : (List Int)), (([] : (List (Int × Int))), ((0 : Int), (0 : Int))))))))))
  (recur_Check (b13, (b13_1, b13_2)) (t68_1.1, (t68_1.2.1, ((t68_1.2.2.1.1, t68_1.2.2.1.2), (t68_1.2.2.2.1, (t68_1.2.2.2.2.1, (t68_1.2.2.2.2.2.1, (t68_1.2.2.2.2.2.2.1, (t68_1.2.2.2.2.2.2.2.1, t68_1.2.2.2.2.2.2.2.2))))))))).bind fun r71_1 =>
  (r10_Check (b13, (b13_1, b13_2)) (t68_1.1, (t68_1.2.1, ((t68_1.2.2.1.1, t68_1.2.2.1.2), (t68_1.2.2.2.1, (t68_1.2.2.2.2.1, (t68_1.2.2.2.2.2.1, (t68_1.2.2.2.2.2.2.1, (t68_1.2.2.2.2.2.2.2.1, t68_1.2.2.2.2.2.2.2.2))))))))).bind fun r74_1 =>
  cond (r71_1 != r74_1) (
  some (.inr (.inl false))) (
  (made_Mod s2 (40 : Int)).bind fun r78_1 =>
  (made_Dice_Next b45 b45_1 (9 : Int)).bind fun r80_1 =>
  let t81_1 : Int := (w64 (r80_1.1 - (1 : Int)))
  let t82_1 : (List Int) := [s2, r78_1, t81_1, (2386093 : Int)]
  (law10_RecurExact_l2 s2 s3 s4 s65 s66 t82_1 (0 : Int) b13 b13_1 b13_2 t68_1.1 t68_1.2.1 t68_1.2.2.1.1 t68_1.2.2.1.2 t68_1.2.2.2.1 t68_1.2.2.2.2.1 t68_1.2.2.2.2.2.1 t68_1.2.2.2.2.2.2.1 t68_1.2.2.2.2.2.2.2.1 t68_1.2.2.2.2.2.2.2.2 r80_1.2.1 r80_1.2.2).bind fun q2_1 =>
  sumC q2_1 (fun a_3 =>
  some (.inr (.inl a_3))) (fun b_3 =>
  (made_Dice_Instant b_3.2.2.2.2.2.2.2.2.2.2.2.2.2.2.2.2.2.2.1 b_3.2.2.2.2.2.2.2.2.2.2.2.2.2.2.2.2.2.2.2).bind fun r110_1 =>
  let t113_1 : (List Int) := [b_3.2.1, r110_1.1, (0 : Int), (8589934592 : Int)]
  (law10_RecurExact_l4 b_3.1 b_3.2.1 b_3.2.2.1 r110_1.1 b_3.2.2.2.1 b_3.2.2.2.2.1 t113_1 (0 : Int) b_3.2.2.2.2.2.1 b_3.2.2.2.2.2.2.1 b_3.2.2.2.2.2.2.2.1 b_3.2.2.2.2.2.2.2.2.1 b_3.2.2.2.2.2.2.2.2.2.1 b_3.2.2.2.2.2.2.2.2.2.2.1 b_3.2.2.2.2.2.2.2.2.2.2.2.1 b_3.2.2.2.2.2.2.2.2.2.2.2.2.1 b_3.2.2.2.2.2.2.2.2.2.2.2.2.2.1 b_3.2.2.2.2.2.2.2.2.2.2.2.2.2.2.1 b_3.2.2.2.2.2.2.2.2.2.2.2.2.2.2.2.1 b_3.2.2.2.2.2.2.2.2.2.2.2.2.2.2.2.2.1 b_3.2.2.2.2.2.2.2.2.2.2.2.2.2.2.2.2.2.1 r110_1.2.1 r110_1.2.2).bind fun q4_1 =>
  sumC q4_1 (fun a_4 =>
  some (.inr (.inl a_4))) (fun b_4 =>
  let t166_1 : Int := (w64 (b_4.2.2.2.1 + (1036800 : Int)))
  let t167_1 : (List Int) := [b_4.2.2.2.1, t166_1]
  let t170_1 : (List Int) := [b_4.2.1, b_4.2.2.1]
  let t173_1 : Int := (w64 (b_4.2.2.2.1 - (1 : Int)))
  let t174_1 : (List Int) := [b_4.2.2.2.1, t173_1]
  let t175_1 : (List (List Int)) := [t167_1, t170_1, t174_1]
  (law10_RecurExact_l6 b_4.1 b_4.2.1 b_4.2.2.1 b_4.2.2.2.2.1 b_4.2.2.2.2.2.1 t175_1 (0 : Int) b_4.2.2.2.2.2.2.1 b_4.2.2.2.2.2.2.2.1 b_4.2.2.2.2.2.2.2.2.1 b_4.2.2.2.2.2.2.2.2.2.1 b_4.2.2.2.2.2.2.2.2.2.2.1 b_4.2.2.2.2.2.2.2.2.2.2.2.1 b_4.2.2.2.2.2.2.2.2.2.2.2.2.1 b_4.2.2.2.2.2.2.2.2.2.2.2.2.2.1 b_4.2.2.2.2.2.2.2.2.2.2.2.2.2.2.1 b_4.2.2.2.2.2.2.2.2.2.2.2.2.2.2.2.1 b_4.2.2.2.2.2.2.2.2.2.2.2.2.2.2.2.2.1 b_4.2.2.2.2.2.2.2.2.2.2.2.2.2.2.2.2.2.1 b_4.2.2.2.2.2.2.2.2.2.2.2.2.2.2.2.2.2.2.1 b_4.2.2.2.2.2.2.2.2.2.2.2.2.2.2.2.2.2.2.2.1 b_4.2.2.2.2.2.2.2.2.2.2.2.2.2.2.2.2.2.2.2.2).bind fun q6_1 =>
  sumC q6_1 (fun a_5 =>
  some (.inr (.inl a_5))) (fun b_5 =>
  let t209_1 : Int := (w64 (b_5.2.2.2.2.1 + (1 : Int)))
  some (.inl (b_5.1, b_5.2.1, b_5.2.2.1, b_5.2.2.2.1, t209_1, b_5.2.2.2.2.2.1, b_5.2.2.2.2.2.2.1, b_5.2.2.2.2.2.2.2.1, b_5.2.2.2.2.2.2.2.2.1, b_5.2.2.2.2.2.2.2.2.2))))))) none) (
  some (.inr (.inr ())))

def law10_RecurExact_l0 (s2 : Int) (s3 : Int) (s4 : Int) (s65 : (List (ByteArray × (Int × ((Int × Int) × (Int × (Int × ((List Int) × ((List (Int × Int)) × (Int × Int)))))))))) (s66 : Int) (b13 : ByteArray) (b13_1 : Int) (b13_2 : (List (Int × (Int × (Int × (Int × (Int × (Int × Int)))))))) (b45 : (List Int)) (b45_1 : Int) : Option (Bool ⊕ Unit) :=
  loopOpt (fun h : Int × Int × Int × (List (ByteArray × (Int × ((Int × Int) × (Int × (Int × ((List Int) × ((List (Int × Int)) × (Int × Int))))))))) × Int × ByteArray × Int × (List (Int × (Int × (Int × (Int × (Int × (Int × Int))))))) × (List Int) × Int => law10_RecurExact_l0_step h.1 h.2.1 h.2.2.1 h.2.2.2.1 h.2.2.2.2.1 h.2.2.2.2.2.1 h.2.2.2.2.2.2.1 h.2.2.2.2.2.2.2.1 h.2.2.2.2.2.2.2.2.1 h.2.2.2.2.2.2.2.2.2) (s2, s3, s4, s65, s66, b13, b13_1, b13_2, b45, b45_1)

theorem law10_RecurExact_l0_eq (s2 : Int) (s3 : Int) (s4 : Int) (s65 : (List (ByteArray × (Int × ((Int × Int) × (Int × (Int × ((List Int) × ((List (Int × Int)) × (Int × Int)))))))))) (s66 : Int) (b13 : ByteArray) (b13_1 : Int) (b13_2 : (List (Int × (Int × (Int × (Int × (Int × (Int × Int)))))))) (b45 : (List Int)) (b45_1 : Int) : law10_RecurExact_l0 s2 s3 s4 s65 s66 b13 b13_1 b13_2 b45 b45_1 = lpK (law10_RecurExact_l0_step s2 s3 s4 s65 s66 b13 b13_1 b13_2 b45 b45_1) (fun h => law10_RecurExact_l0 h.1 h.2.1 h.2.2.1 h.2.2.2.1 h.2.2.2.2.1 h.2.2.2.2.2.1 h.2.2.2.2.2.2.1 h.2.2.2.2.2.2.2.1 h.2.2.2.2.2.2.2.2.1 h.2.2.2.2.2.2.2.2.2) := loopOpt_eq _ _

def law10_RecurExact (a0_t : (List Int)) (a1_raw : (ByteArray × (Int × ((Int × Int) × (Int × (Int × ((List Int) × ((List (Int × Int)) × (Int × Int))))))))) (a2_k : Int) (a3_x : Int) (a4_to : Int) : Option (Bool) :=
  (made_Light a0_t).bind fun r41 =>
  cond (!r41) (
  (law10_sane).bind fun r43 =>
  some r43) (
  (made_Roll a0_t).bind fun r45 =>
  (made_Dice_Staff r45.1 r45.2).bind fun r47 =>
  let t53 : Int := (Int.ofNat (List.length r47.1.1))
  (made_Dice_Next r47.2.1 r47.2.2 t53).bind fun r54 =>
  cond (inR r54.1 (List.length r47.1.1)) (
  let t55 : (ByteArray × (Int × (List (Int × (Int × (Int × (Int × (Int × (Int × Int))))))))) := (List.getD r47.1.1 (Int.toNat r54.1) (ByteArray.empty, ((0 : Int), ([] : (List (Int × (Int × (Int × (Int × (Int × (Int × Int)))))))))))
  (made_Dice_Layer r54.2.1 r54.2.2 (r47.1.1, (r47.1.2.1, (r47.1.2.2.1, ([] : (List (ByteArray × ((List (ByteArray × (Int × ((Int × Int) × (Int × (Int × ((List Int) × ((List (Int × Int)) × (Int × Int))))))))) × (List (Int × (Int × (Int × (Int × Int)))))))))))) (ByteArray.mk #[97])).bind fun r59 =>
  (law10_odd r59.2.1 r59.2.2 (r59.1.1, (r59.1.2.1, ((r59.1.2.2.1.1, r59.1.2.2.1.2), (r59.1.2.2.2.1, (r59.1.2.2.2.2.1, (r59.1.2.2.2.2.2.1, (r59.1.2.2.2.2.2.2.1, (r59.1.2.2.2.2.2.2.2.1, r59.1.2.2.2.2.2.2.2.2))))))))).bind fun r63 =>
  let t65 : (List (ByteArray × (Int × ((Int × Int) × (Int × (Int × ((List Int) × ((List (Int × Int)) × (Int × Int))))))))) := [(r59.1.1, (r59.1.2.1, ((r59.1.2.2.1.1, r59.1.2.2.1.2), (r59.1.2.2.2.1, (r59.1.2.2.2.2.1, (r59.1.2.2.2.2.2.1, (r59.1.2.2.2.2.2.2.1, (r59.1.2.2.2.2.2.2.2.1, r59.1.2.2.2.2.2.2.2.2)))))))), (r63.1.1, (r63.1.2.1, ((r63.1.2.2.1.1, r63.1.2.2.1.2), (r63.1.2.2.2.1, (r63.1.2.2.2.2.1, (r63.1.2.2.2.2.2.1, (r63.1.2.2.2.2.2.2.1, (r63.1.2.2.2.2.2.2.2.1, r63.1.2.2.2.2.2.2.2.2)))))))), (a1_raw.1, (a1_raw.2.1, ((a1_raw.2.2.1.1, a1_raw.2.2.1.2), (a1_raw.2.2.2.1, (a1_raw.2.2.2.2.1, (a1_raw.2.2.2.2.2.1, (a1_raw.2.2.2.2.2.2.1, (a1_raw.2.2.2.2.2.2.2.1, a1_raw.2.2.2.2.2.2.2.2))))))))]
  (law10_RecurExact_l0 a2_k a3_x a4_to t65 (0 : Int) t55.1 t55.2.1 t55.2.2 r63.2.1 r63.2.2).bind fun q0 =>
  sumC q0 (fun a =>
  some a) (fun b =>
  (law10_sane).bind fun r210 =>
  some r210)) none)
end
end Go.Proofs.Pw
