/- Plain functions, printed by a program out of the given code. -/
import Derived.Test.YthjegapnciafcaaLD
open Go Go.Lft
set_option linter.unusedVariables false
namespace Go.Proofs.Pw
noncomputable section

def made_Light (a0_l : (List Int)) : Option (Bool) :=
  let t4 : Int := (Int.ofNat (List.length a0_l))
  some (decide (t4 ≤ (500 : Int)))

def load_right_l0_step (s0 : (List (Int × (Int × Int)))) (s8 : (List (Int × (Int × Int)))) (s9 : Int) (s10 : Int) : Option (((List (Int × (Int × Int))) × (List (Int × (Int × Int))) × Int × Int) ⊕ (Bool ⊕ Unit)) :=
  cond (decide (s10 < s9)) (
  cond (inR s10 (List.length s8)) (
  let t13_1 : (Int × (Int × Int)) := (List.getD s8 (Int.toNat s10) ((0 : Int), ((0 : Int), (0 : Int))))
  cond (decide (t13_1.1 < (0 : Int))) (
  some (.inr (.inl false))) (
  cond (decide (t13_1.1 ≥ (32 : Int))) (
  some (.inr (.inl false))) (
  cond (decide (s10 > (0 : Int))) (
  let t31_1 : Int := (w64 (s10 - (1 : Int)))
  cond (inR t31_1 (List.length s0)) (
  let t32_1 : (Int × (Int × Int)) := (List.getD s0 (Int.toNat t31_1) ((0 : Int), ((0 : Int), (0 : Int))))
  cond (decide (t13_1.1 ≤ t32_1.1)) (
  some (.inr (.inl false))) (
  cond (decide (t13_1.2.1 < (0 : Int))) (
  some (.inr (.inl false))) (
  cond (decide (t13_1.2.1 > (8589934592 : Int))) (
  some (.inr (.inl false))) (
  cond (decide (t13_1.2.2 < t13_1.2.1)) (
  some (.inr (.inl false))) (
  let t60_2 : Int := (w64 ((8 : Int) * t13_1.2.1))
  cond (decide (t13_1.2.2 > t60_2)) (
  some (.inr (.inl false))) (
  let t63_2 : Int := (w64 (s10 + (1 : Int)))
  some (.inl (s0, s8, s9, t63_2)))))))) none) (
  cond (decide (t13_1.2.1 < (0 : Int))) (
  some (.inr (.inl false))) (
  cond (decide (t13_1.2.1 > (8589934592 : Int))) (
  some (.inr (.inl false))) (
  cond (decide (t13_1.2.2 < t13_1.2.1)) (
  some (.inr (.inl false))) (
  let t60_3 : Int := (w64 ((8 : Int) * t13_1.2.1))
  cond (decide (t13_1.2.2 > t60_3)) (
  some (.inr (.inl false))) (
  let t63_3 : Int := (w64 (s10 + (1 : Int)))
  some (.inl (s0, s8, s9, t63_3)))))))))) none) (
  some (.inr (.inr ())))

def load_right_l0 (s0 : (List (Int × (Int × Int)))) (s8 : (List (Int × (Int × Int)))) (s9 : Int) (s10 : Int) : Option (Bool ⊕ Unit) :=
  loopOpt (fun h : (List (Int × (Int × Int))) × (List (Int × (Int × Int))) × Int × Int => load_right_l0_step h.1 h.2.1 h.2.2.1 h.2.2.2) (s0, s8, s9, s10)

theorem load_right_l0_eq (s0 : (List (Int × (Int × Int)))) (s8 : (List (Int × (Int × Int)))) (s9 : Int) (s10 : Int) : load_right_l0 s0 s8 s9 s10 = lpK (load_right_l0_step s0 s8 s9 s10) (fun h => load_right_l0 h.1 h.2.1 h.2.2.1 h.2.2.2) := loopOpt_eq _ _

def load_right (a0_l : (List (Int × (Int × Int)))) : Option (Bool) :=
  let t6 : Int := (Int.ofNat (List.length a0_l))
  cond (decide (t6 > (32 : Int))) (
  some false) (
  let t9 : Int := (Int.ofNat (List.length a0_l))
  (load_right_l0 a0_l a0_l t9 (0 : Int)).bind fun q0 =>
  sumC q0 (fun a =>
  some a) (fun b =>
  some true))

def load_weighted_l0_step (s1 : Int) (s7 : (List (Int × (Int × Int)))) (s8 : Int) (s9 : Int) : Option ((Int × (List (Int × (Int × Int))) × Int × Int) ⊕ (Int ⊕ Unit)) :=
  cond (decide (s9 < s8)) (
  cond (inR s9 (List.length s7)) (
  let t11_1 : (Int × (Int × Int)) := (List.getD s7 (Int.toNat s9) ((0 : Int), ((0 : Int), (0 : Int))))
  cond (t11_1.1 == s1) (
  some (.inr (.inl t11_1.2.2))) (
  let t19_1 : Int := (w64 (s9 + (1 : Int)))
  some (.inl (s1, s7, s8, t19_1)))) none) (
  some (.inr (.inr ())))

def load_weighted_l0 (s1 : Int) (s7 : (List (Int × (Int × Int)))) (s8 : Int) (s9 : Int) : Option (Int ⊕ Unit) :=
  loopOpt (fun h : Int × (List (Int × (Int × Int))) × Int × Int => load_weighted_l0_step h.1 h.2.1 h.2.2.1 h.2.2.2) (s1, s7, s8, s9)

theorem load_weighted_l0_eq (s1 : Int) (s7 : (List (Int × (Int × Int)))) (s8 : Int) (s9 : Int) : load_weighted_l0 s1 s7 s8 s9 = lpK (load_weighted_l0_step s1 s7 s8 s9) (fun h => load_weighted_l0 h.1 h.2.1 h.2.2.1 h.2.2.2) := loopOpt_eq _ _

def load_weighted (a0_l : (List (Int × (Int × Int)))) (a1_person : Int) : Option (Int) :=
  let t8 : Int := (Int.ofNat (List.length a0_l))
  (load_weighted_l0 a1_person a0_l t8 (0 : Int)).bind fun q0 =>
  sumC q0 (fun a =>
  some a) (fun b =>
  some (0 : Int))

def load_Sum_l0_step (s11 : (List (Int × (Int × Int)))) (s12 : Int) (s13 : Int) (b2 : Int) (b2_1 : Int) (b2_2 : Int) (b3 : Int) (b3_1 : Int) (b3_2 : Int) : Option (((List (Int × (Int × Int))) × Int × Int × Int × Int × Int × Int × Int × Int) ⊕ ((Int × Int × Int × Int × Int × Int))) :=
  cond (decide (s13 < s12)) (
  cond (inR s13 (List.length s11)) (
  let t15_1 : (Int × (Int × Int)) := (List.getD s11 (Int.toNat s13) ((0 : Int), ((0 : Int), (0 : Int))))
  let t21_1 : Int := (w64 (b3_1 + t15_1.2.1))
  let t27_1 : Int := (w64 (b3_2 + t15_1.2.2))
  let t29_1 : Int := (w64 (s13 + (1 : Int)))
  some (.inl (s11, s12, t29_1, b2, b2_1, b2_2, b3, t21_1, t27_1))) none) (
  some (.inr (b2, b2_1, b2_2, b3, b3_1, b3_2)))

def load_Sum_l0 (s11 : (List (Int × (Int × Int)))) (s12 : Int) (s13 : Int) (b2 : Int) (b2_1 : Int) (b2_2 : Int) (b3 : Int) (b3_1 : Int) (b3_2 : Int) : Option ((Int × Int × Int × Int × Int × Int)) :=
  loopOpt (fun h : (List (Int × (Int × Int))) × Int × Int × Int × Int × Int × Int × Int × Int => load_Sum_l0_step h.1 h.2.1 h.2.2.1 h.2.2.2.1 h.2.2.2.2.1 h.2.2.2.2.2.1 h.2.2.2.2.2.2.1 h.2.2.2.2.2.2.2.1 h.2.2.2.2.2.2.2.2) (s11, s12, s13, b2, b2_1, b2_2, b3, b3_1, b3_2)

theorem load_Sum_l0_eq (s11 : (List (Int × (Int × Int)))) (s12 : Int) (s13 : Int) (b2 : Int) (b2_1 : Int) (b2_2 : Int) (b3 : Int) (b3_1 : Int) (b3_2 : Int) : load_Sum_l0 s11 s12 s13 b2 b2_1 b2_2 b3 b3_1 b3_2 = lpK (load_Sum_l0_step s11 s12 s13 b2 b2_1 b2_2 b3 b3_1 b3_2) (fun h => load_Sum_l0 h.1 h.2.1 h.2.2.1 h.2.2.2.1 h.2.2.2.2.1 h.2.2.2.2.2.1 h.2.2.2.2.2.2.1 h.2.2.2.2.2.2.2.1 h.2.2.2.2.2.2.2.2) := loopOpt_eq _ _

def load_Sum (a0_l : (List (Int × (Int × Int)))) : Option ((Int × (Int × Int))) :=
  (load_right a0_l).bind fun r8 =>
  cond (!r8) (
  some ((-1 : Int), ((0 : Int), (0 : Int)))) (
  let t12 : Int := (Int.ofNat (List.length a0_l))
  (load_Sum_l0 a0_l t12 (0 : Int) (0 : Int) (0 : Int) (0 : Int) (-1 : Int) (0 : Int) (0 : Int)).bind fun q0 =>
  some (q0.2.2.2.1, (q0.2.2.2.2.1, q0.2.2.2.2.2)))

def ratio_within (a0_n : Int) : Option (Bool) :=
  let t8 : Bool := (cond (decide (a0_n ≥ (-4611686018427387904 : Int))) (decide (a0_n ≤ (4611686018427387904 : Int))) false)
  some t8

def ratio_size (a0_n : Int) : Option (Int) :=
  cond (decide (a0_n < (0 : Int))) (
  let t6 : Int := (w64 (0 - a0_n))
  some t6) (
  some a0_n)

def ratio_gcd_l0_step (s0 : Int) (s1 : Int) : Option ((Int × Int) ⊕ (Int)) :=
  cond (s1 != (0 : Int)) (
  cond (!(s1 == 0)) (
  let t10_1 : Int := (Int.tmod s0 s1)
  some (.inl (s1, t10_1))) none) (
  some (.inr s0))

def ratio_gcd_l0 (s0 : Int) (s1 : Int) : Option (Int) :=
  loopOpt (fun h : Int × Int => ratio_gcd_l0_step h.1 h.2) (s0, s1)

theorem ratio_gcd_l0_eq (s0 : Int) (s1 : Int) : ratio_gcd_l0 s0 s1 = lpK (ratio_gcd_l0_step s0 s1) (fun h => ratio_gcd_l0 h.1 h.2) := loopOpt_eq _ _

def ratio_gcd (a0_a : Int) (a1_b : Int) : Option (Int) :=
  (ratio_gcd_l0 a0_a a1_b).bind fun q0 =>
  some q0

def ratio_New (a0_num : Int) (a1_den : Int) : Option ((Int × Int) × Int) :=
  cond (cond (decide (a1_den < (1 : Int))) true (decide (a1_den > (4611686018427387904 : Int)))) (
  some (((0 : Int), (0 : Int)), (1 : Int))) (
  (ratio_within a0_num).bind fun r15 =>
  cond (!r15) (
  some (((0 : Int), (0 : Int)), (1 : Int))) (
  (ratio_size a0_num).bind fun r20 =>
  (ratio_gcd r20 a1_den).bind fun r22 =>
  cond (!(r22 == 0)) (
  let t25 : Int := (w64 (Int.tdiv a0_num r22))
  cond (!(r22 == 0)) (
  let t28 : Int := (w64 (Int.tdiv a1_den r22))
  some ((t25, t28), (0 : Int))) none) none))

def load_Share (a0_l : (List (Int × (Int × Int)))) (a1_person : Int) : Option ((Int × Int) × Int) :=
  (load_right a0_l).bind fun r7 =>
  cond (!r7) (
  some (((0 : Int), (0 : Int)), (8 : Int))) (
  (load_weighted a0_l a1_person).bind fun r12 =>
  (load_Sum a0_l).bind fun r14 =>
  let t16 : Int := (if r14.2.2 > (1 : Int) then r14.2.2 else (1 : Int) : Int)
  (ratio_New r12 t16).bind fun r17 =>
  some ((r17.1.1, r17.1.2), r17.2))

def load_Jain_l1_step (s0 : (List (Int × (Int × Int)))) (s1 : (List Int)) (s6 : Int) (s22 : (List Int)) (s23 : Int) (s24 : Int) (b4 : Int) (b4_1 : Int) : Option (((List (Int × (Int × Int))) × (List Int) × Int × (List Int) × Int × Int × Int × Int) ⊕ (((List (Int × (Int × Int))) × (List Int) × Int × Int × Int))) :=
  cond (decide (s24 < s23)) (
  cond (inR s24 (List.length s22)) (
  let t26_1 : Int := (List.getD s22 (Int.toNat s24) (0 : Int))
  (load_weighted s0 t26_1).bind fun r31_1 =>
  let t32_1 : Int := (w64 (s6 + r31_1))
  let t33_1 : Int := (w64 (s24 + (1 : Int)))
  some (.inl (s0, s1, t32_1, s22, s23, t33_1, b4, b4_1))) none) (
  some (.inr (s0, s1, s6, b4, b4_1)))

def load_Jain_l1 (s0 : (List (Int × (Int × Int)))) (s1 : (List Int)) (s6 : Int) (s22 : (List Int)) (s23 : Int) (s24 : Int) (b4 : Int) (b4_1 : Int) : Option (((List (Int × (Int × Int))) × (List Int) × Int × Int × Int)) :=
  loopOpt (fun h : (List (Int × (Int × Int))) × (List Int) × Int × (List Int) × Int × Int × Int × Int => load_Jain_l1_step h.1 h.2.1 h.2.2.1 h.2.2.2.1 h.2.2.2.2.1 h.2.2.2.2.2.1 h.2.2.2.2.2.2.1 h.2.2.2.2.2.2.2) (s0, s1, s6, s22, s23, s24, b4, b4_1)

theorem load_Jain_l1_eq (s0 : (List (Int × (Int × Int)))) (s1 : (List Int)) (s6 : Int) (s22 : (List Int)) (s23 : Int) (s24 : Int) (b4 : Int) (b4_1 : Int) : load_Jain_l1 s0 s1 s6 s22 s23 s24 b4 b4_1 = lpK (load_Jain_l1_step s0 s1 s6 s22 s23 s24 b4 b4_1) (fun h => load_Jain_l1 h.1 h.2.1 h.2.2.1 h.2.2.2.1 h.2.2.2.2.1 h.2.2.2.2.2.1 h.2.2.2.2.2.2.1 h.2.2.2.2.2.2.2) := loopOpt_eq _ _

def load_Jain_l4_step (s0 : (List (Int × (Int × Int)))) (s1 : (List Int)) (s6 : Int) (s9 : Int) (s42 : (List Int)) (s43 : Int) (s44 : Int) (b4 : Int) (b4_1 : Int) : Option (((List (Int × (Int × Int))) × (List Int) × Int × Int × (List Int) × Int × Int × Int × Int) ⊕ (((List Int) × Int × Int × Int × Int))) :=
  cond (decide (s44 < s43)) (
  cond (inR s44 (List.length s42)) (
  let t46_1 : Int := (List.getD s42 (Int.toNat s44) (0 : Int))
  (load_weighted s0 t46_1).bind fun r51_1 =>
  (load_weighted s0 t46_1).bind fun r54_1 =>
  let t55_1 : Int := (w64 (r51_1 * r54_1))
  let t56_1 : Int := (w64 (s9 + t55_1))
  let t57_1 : Int := (w64 (s44 + (1 : Int)))
  some (.inl (s0, s1, s6, t56_1, s42, s43, t57_1, b4, b4_1))) none) (
  some (.inr (s1, s6, s9, b4, b4_1)))

def load_Jain_l4 (s0 : (List (Int × (Int × Int)))) (s1 : (List Int)) (s6 : Int) (s9 : Int) (s42 : (List Int)) (s43 : Int) (s44 : Int) (b4 : Int) (b4_1 : Int) : Option (((List Int) × Int × Int × Int × Int)) :=
  loopOpt (fun h : (List (Int × (Int × Int))) × (List Int) × Int × Int × (List Int) × Int × Int × Int × Int => load_Jain_l4_step h.1 h.2.1 h.2.2.1 h.2.2.2.1 h.2.2.2.2.1 h.2.2.2.2.2.1 h.2.2.2.2.2.2.1 h.2.2.2.2.2.2.2.1 h.2.2.2.2.2.2.2.2) (s0, s1, s6, s9, s42, s43, s44, b4, b4_1)

theorem load_Jain_l4_eq (s0 : (List (Int × (Int × Int)))) (s1 : (List Int)) (s6 : Int) (s9 : Int) (s42 : (List Int)) (s43 : Int) (s44 : Int) (b4 : Int) (b4_1 : Int) : load_Jain_l4 s0 s1 s6 s9 s42 s43 s44 b4 b4_1 = lpK (load_Jain_l4_step s0 s1 s6 s9 s42 s43 s44 b4 b4_1) (fun h => load_Jain_l4 h.1 h.2.1 h.2.2.1 h.2.2.2.1 h.2.2.2.2.1 h.2.2.2.2.2.1 h.2.2.2.2.2.2.1 h.2.2.2.2.2.2.2.1 h.2.2.2.2.2.2.2.2) := loopOpt_eq _ _

def load_Jain (a0_l : (List (Int × (Int × Int)))) (a1_people : (List Int)) : Option ((Int × Int) × Int) :=
  (load_right a0_l).bind fun r14 =>
  cond (!r14) (
  some (((0 : Int), (0 : Int)), (8 : Int))) (
  let t19 : Int := (Int.ofNat (List.length a1_people))
  cond (decide (t19 > (32 : Int))) (
  some (((0 : Int), (0 : Int)), (5 : Int))) (
  let t23 : Int := (Int.ofNat (List.length a1_people))
  (load_Jain_l1 a0_l a1_people (0 : Int) a1_people t23 (0 : Int) (0 : Int) (0 : Int)).bind fun q1 =>
  cond (decide (q1.2.2.1 > (268435456 : Int))) (
  some (((0 : Int), (0 : Int)), (5 : Int))) (
  cond (q1.2.2.1 == (0 : Int)) (
  some (((1 : Int), (1 : Int)), (0 : Int))) (
  let t43 : Int := (Int.ofNat (List.length q1.2.1))
  (load_Jain_l4 q1.1 q1.2.1 q1.2.2.1 (0 : Int) q1.2.1 t43 (0 : Int) q1.2.2.2.1 q1.2.2.2.2).bind fun q4 =>
  let t60 : Int := (w64 (q4.2.1 * q4.2.1))
  let t62 : Int := (Int.ofNat (List.length q4.1))
  let t64 : Int := (w64 (t62 * q4.2.2.1))
  (ratio_New t60 t64).bind fun r65 =>
  some ((r65.1.1, r65.1.2), r65.2)))))

def load_Spread_l0_step (s0 : (List (Int × (Int × Int)))) (s5 : Int) (s6 : Int) (s27 : (List Int)) (s28 : Int) (s29 : Int) : Option (((List (Int × (Int × Int))) × Int × Int × (List Int) × Int × Int) ⊕ ((Int × Int))) :=
  cond (decide (s29 < s28)) (
  cond (inR s29 (List.length s27)) (
  let t31_1 : Int := (List.getD s27 (Int.toNat s29) (0 : Int))
  (load_weighted s0 t31_1).bind fun r36_1 =>
  let t37_1 : Int := (if r36_1 < s5 then r36_1 else s5 : Int)
  (load_weighted s0 t31_1).bind fun r41_1 =>
  let t42_1 : Int := (if r41_1 > s6 then r41_1 else s6 : Int)
  let t43_1 : Int := (w64 (s29 + (1 : Int)))
  some (.inl (s0, t37_1, t42_1, s27, s28, t43_1))) none) (
  some (.inr (s5, s6)))

def load_Spread_l0 (s0 : (List (Int × (Int × Int)))) (s5 : Int) (s6 : Int) (s27 : (List Int)) (s28 : Int) (s29 : Int) : Option ((Int × Int)) :=
  loopOpt (fun h : (List (Int × (Int × Int))) × Int × Int × (List Int) × Int × Int => load_Spread_l0_step h.1 h.2.1 h.2.2.1 h.2.2.2.1 h.2.2.2.2.1 h.2.2.2.2.2) (s0, s5, s6, s27, s28, s29)

theorem load_Spread_l0_eq (s0 : (List (Int × (Int × Int)))) (s5 : Int) (s6 : Int) (s27 : (List Int)) (s28 : Int) (s29 : Int) : load_Spread_l0 s0 s5 s6 s27 s28 s29 = lpK (load_Spread_l0_step s0 s5 s6 s27 s28 s29) (fun h => load_Spread_l0 h.1 h.2.1 h.2.2.1 h.2.2.2.1 h.2.2.2.2.1 h.2.2.2.2.2) := loopOpt_eq _ _

def load_Spread (a0_l : (List (Int × (Int × Int)))) (a1_people : (List Int)) : Option (Int) :=
  (load_right a0_l).bind fun r10 =>
  let t14 : Int := (Int.ofNat (List.length a1_people))
  cond (cond (!r10) true (t14 == (0 : Int))) (
  some (0 : Int)) (
  cond (inR (0 : Int) (List.length a1_people)) (
  let t19 : Int := (List.getD a1_people 0 (0 : Int))
  (load_weighted a0_l t19).bind fun r21 =>
  cond (inR (0 : Int) (List.length a1_people)) (
  let t24 : Int := (List.getD a1_people 0 (0 : Int))
  (load_weighted a0_l t24).bind fun r26 =>
  let t28 : Int := (Int.ofNat (List.length a1_people))
  (load_Spread_l0 a0_l r21 r26 a1_people t28 (0 : Int)).bind fun q0 =>
  let t46 : Int := (w64 (q0.2 - q0.1))
  some t46) none) none)

def law17_sane  : Option (Bool) :=
  let t8 : (List (Int × (Int × Int))) := [((0 : Int), ((100 : Int), (100 : Int))), ((1 : Int), ((300 : Int), (300 : Int)))]
  (load_Share t8 (0 : Int)).bind fun r11 =>
  let t16 : (List Int) := [(0 : Int), (1 : Int)]
  (load_Jain t8 t16).bind fun r17 =>
  let t30 : Bool := (cond (cond (r11.2 == (0 : Int)) (r17.2 == (0 : Int)) false) ((r11.1.1 == (1 : Int)) && (r11.1.2 == (4 : Int))) false)
  cond (cond t30 ((r17.1.1 == (4 : Int)) && (r17.1.2 == (5 : Int))) false) (
  let t38 : (List Int) := [(0 : Int), (1 : Int)]
  (load_Spread t8 t38).bind fun r39 =>
  cond (r39 == (200 : Int)) (
  (load_Sum t8).bind fun r44 =>
  some ((r44.1 == (-1 : Int)) && ((r44.2.1 == (400 : Int)) && (r44.2.2 == (400 : Int))))) (
  some false)) (
  some false)

def made_Roll (a0_l : (List Int)) : Option ((List Int) × Int) :=
  some (a0_l, (0 : Int))

def made_Dice_Next (a0_d : (List Int)) (a0_d_1 : Int) (a1_n : Int) : Option (Int × (List Int) × Int) :=
  let t14 : Int := (Int.ofNat (List.length a0_d))
  cond (decide (a0_d_1 ≥ t14)) (
  some ((0 : Int), a0_d, a0_d_1)) (
  cond (decide (a1_n < (1 : Int))) (
  some ((0 : Int), a0_d, a0_d_1)) (
  cond (inR a0_d_1 (List.length a0_d)) (
  let t28 : Int := (List.getD a0_d (Int.toNat a0_d_1) (0 : Int))
  cond (!(a1_n == 0)) (
  let t31 : Int := (Int.tmod t28 a1_n)
  let t36 : Int := (w64 (a0_d_1 + (1 : Int)))
  cond (decide (t31 < (0 : Int))) (
  let t43 : Int := (w64 (t31 + a1_n))
  some (t43, a0_d, t36)) (
  some (t31, a0_d, t36))) none) none))

def made_Dice_Pick (a0_d : (List Int)) (a0_d_1 : Int) (a1_l : (List Int)) : Option (Int × (List Int) × Int) :=
  let t8 : Int := (Int.ofNat (List.length a1_l))
  (made_Dice_Next a0_d a0_d_1 t8).bind fun r9 =>
  cond (inR r9.1 (List.length a1_l)) (
  let t10 : Int := (List.getD a1_l (Int.toNat r9.1) (0 : Int))
  some (t10, r9.2.1, r9.2.2)) none

def made_Dice_Loads_l0_step (s4 : Int) (s5 : Int) (b0 : (List Int)) (b0_1 : Int) (l3 : (List (Int × (Int × Int)))) : Option ((Int × Int × (List Int) × Int × (List (Int × (Int × Int)))) ⊕ (((List Int) × Int × (List (Int × (Int × Int)))))) :=
  cond (decide (s5 > (0 : Int))) (
  let t16_2 : (List Int) := [(0 : Int), (1 : Int), (100 : Int), (300 : Int), (86400 : Int), (7 : Int)]
  (made_Dice_Pick b0 b0_1 t16_2).bind fun r17_2 =>
  (made_Dice_Next r17_2.2.1 r17_2.2.2 (3 : Int)).bind fun r23_2 =>
  let t24_2 : Int := (w64 ((1 : Int) + r23_2.1))
  let t25_2 : Int := (w64 (r17_2.1 * t24_2))
  let t27_2 : (List (Int × (Int × Int))) := [(s4, (r17_2.1, t25_2))]
  cond (decide (List.length l3 + List.length t27_2 ≤ sizeMax)) (
  let t28_2 : (List (Int × (Int × Int))) := (l3 ++ t27_2)
  (made_Dice_Next r23_2.2.1 r23_2.2.2 (2 : Int)).bind fun r31_2 =>
  let t32_2 : Int := (w64 ((1 : Int) + r31_2.1))
  let t33_2 : Int := (w64 (s4 + t32_2))
  let t14_2 : Int := (w64 (s5 - (1 : Int)))
  some (.inl (t33_2, t14_2, r31_2.2.1, r31_2.2.2, t28_2))) none) (
  some (.inr (b0, b0_1, l3)))

def made_Dice_Loads_l0 (s4 : Int) (s5 : Int) (b0 : (List Int)) (b0_1 : Int) (l3 : (List (Int × (Int × Int)))) : Option (((List Int) × Int × (List (Int × (Int × Int))))) :=
  loopOpt (fun h : Int × Int × (List Int) × Int × (List (Int × (Int × Int))) => made_Dice_Loads_l0_step h.1 h.2.1 h.2.2.1 h.2.2.2.1 h.2.2.2.2) (s4, s5, b0, b0_1, l3)

theorem made_Dice_Loads_l0_eq (s4 : Int) (s5 : Int) (b0 : (List Int)) (b0_1 : Int) (l3 : (List (Int × (Int × Int)))) : made_Dice_Loads_l0 s4 s5 b0 b0_1 l3 = lpK (made_Dice_Loads_l0_step s4 s5 b0 b0_1 l3) (fun h => made_Dice_Loads_l0 h.1 h.2.1 h.2.2.1 h.2.2.2.1 h.2.2.2.2) := loopOpt_eq _ _

def made_Dice_Loads (a0_d : (List Int)) (a0_d_1 : Int) : Option ((List (Int × (Int × Int))) × (List Int) × Int) :=
  (made_Dice_Next a0_d a0_d_1 (3 : Int)).bind fun r8 =>
  (made_Dice_Next r8.2.1 r8.2.2 (5 : Int)).bind fun r10 =>
  (made_Dice_Loads_l0 r8.1 r10.1 r10.2.1 r10.2.2 ([] : (List (Int × (Int × Int))))).bind fun q0 =>
  some (q0.2.2, q0.1, q0.2.1)

def r02_in (a0_n : Int) : Option (Bool) :=
  let t8 : Bool := (cond (decide (a0_n ≥ (-4611686018427387904 : Int))) (decide (a0_n ≤ (4611686018427387904 : Int))) false)
  some t8

def r02_size (a0_n : Int) : Option (Int) :=
  cond (decide (a0_n < (0 : Int))) (
  let t6 : Int := (w64 (0 - a0_n))
  some t6) (
  some a0_n)

def r02_gcd_l0_step (s0 : Int) (s1 : Int) : Option ((Int × Int) ⊕ (Int)) :=
  cond (s1 != (0 : Int)) (
  cond (!(s1 == 0)) (
  let t10_1 : Int := (Int.tmod s0 s1)
  some (.inl (s1, t10_1))) none) (
  some (.inr s0))

def r02_gcd_l0 (s0 : Int) (s1 : Int) : Option (Int) :=
  loopOpt (fun h : Int × Int => r02_gcd_l0_step h.1 h.2) (s0, s1)

theorem r02_gcd_l0_eq (s0 : Int) (s1 : Int) : r02_gcd_l0 s0 s1 = lpK (r02_gcd_l0_step s0 s1) (fun h => r02_gcd_l0 h.1 h.2) := loopOpt_eq _ _

def r02_gcd (a0_a : Int) (a1_b : Int) : Option (Int) :=
  (r02_gcd_l0 a0_a a1_b).bind fun q0 =>
  some q0

def r02_Valid (a0_r : (Int × Int)) : Option (Bool) :=
  (r02_in a0_r.1).bind fun r5 =>
  cond r5 (
  cond (decide (a0_r.2 ≥ (1 : Int))) (
  cond (decide (a0_r.2 ≤ (4611686018427387904 : Int))) (
  (r02_size a0_r.1).bind fun r19 =>
  (r02_gcd r19 a0_r.2).bind fun r22 =>
  some (r22 == (1 : Int))) (
  some false)) (
  some false)) (
  some false)

def r02_product (a0_a : Int) (a1_b : Int) : Option (Int × Bool) :=
  cond (cond (a0_a == (0 : Int)) true (a1_b == (0 : Int))) (
  some ((0 : Int), true)) (
  (r02_size a0_a).bind fun r13 =>
  (r02_size a1_b).bind fun r15 =>
  cond (!(r15 == 0)) (
  let t16 : Int := (w64 (Int.tdiv (4611686018427387904 : Int) r15))
  cond (decide (r13 > t16)) (
  some ((0 : Int), false)) (
  let t20 : Int := (w64 (a0_a * a1_b))
  some (t20, true))) none)

def r02_New (a0_num : Int) (a1_den : Int) : Option ((Int × Int) × Int) :=
  (r02_in a0_num).bind fun r8 =>
  let t17 : Bool := (cond (cond (!r8) true (decide (a1_den < (1 : Int)))) true (decide (a1_den > (4611686018427387904 : Int))))
  cond t17 (
  some (((0 : Int), (0 : Int)), (1 : Int))) (
  (r02_size a0_num).bind fun r20 =>
  (r02_gcd r20 a1_den).bind fun r22 =>
  cond (!(r22 == 0)) (
  let t25 : Int := (w64 (Int.tdiv a0_num r22))
  cond (!(r22 == 0)) (
  let t28 : Int := (w64 (Int.tdiv a1_den r22))
  some ((t25, t28), (0 : Int))) none) none)

def r02_Add (a0_a : (Int × Int)) (a1_b : (Int × Int)) : Option ((Int × Int) × Int) :=
  (r02_Valid (a0_a.1, a0_a.2)).bind fun r14 =>
  cond (!r14) (
  some (((0 : Int), (0 : Int)), (8 : Int))) (
  (r02_Valid (a1_b.1, a1_b.2)).bind fun r18 =>
  cond (!r18) (
  some (((0 : Int), (0 : Int)), (8 : Int))) (
  (r02_gcd a0_a.2 a1_b.2).bind fun r26 =>
  cond (!(r26 == 0)) (
  let t33 : Int := (w64 (Int.tdiv a1_b.2 r26))
  (r02_product a0_a.1 t33).bind fun r34 =>
  cond (!(r26 == 0)) (
  let t43 : Int := (w64 (Int.tdiv a0_a.2 r26))
  (r02_product a1_b.1 t43).bind fun r44 =>
  cond (!(r26 == 0)) (
  let t51 : Int := (w64 (Int.tdiv a0_a.2 r26))
  (r02_product t51 a1_b.2).bind fun r54 =>
  let t73 : Int := (w64 ((4611686018427387904 : Int) - r34.1))
  let t76 : Bool := (cond (cond (cond (!r34.2) true (!r44.2)) true (!r54.2)) true (cond (decide (r34.1 > (0 : Int))) (decide (r44.1 > t73)) false))
  let t83 : Int := (w64 ((-4611686018427387904 : Int) - r34.1))
  cond (cond t76 true (cond (decide (r34.1 < (0 : Int))) (decide (r44.1 < t83)) false)) (
  some (((0 : Int), (0 : Int)), (5 : Int))) (
  let t90 : Int := (w64 (r34.1 + r44.1))
  (r02_New t90 r54.1).bind fun r92 =>
  some ((r92.1.1, r92.1.2), r92.2))) none) none) none))

def law17_LoadShares_l0_step (s20 : Int) (s21 : Int) (b4 : Int) (b4_1 : Int) (l3 : (List (Int × (Int × Int)))) : Option ((Int × Int × Int × Int × (List (Int × (Int × Int)))) ⊕ (Bool ⊕ (Int × Int × (List (Int × (Int × Int)))))) :=
  cond (decide (s21 < s20)) (
  cond (inR s21 (List.length l3)) (
  let t30_1 : Int := (List.getD l3 (Int.toNat s21) ((0 : Int), ((0 : Int), (0 : Int)))).1
  (load_Share l3 t30_1).bind fun r31_1 =>
  (r02_Add (b4, b4_1) (r31_1.1.1, r31_1.1.2)).bind fun r37_1 =>
  let t50_1 : Bool := (cond (cond (r31_1.2 != (0 : Int)) true (r37_1.2 != (0 : Int))) true (decide (r31_1.1.1 < (0 : Int))))
  cond t50_1 (
  some (.inr (.inl false))) (
  let t52_1 : Int := (w64 (s21 + (1 : Int)))
  some (.inl (s20, t52_1, r37_1.1.1, r37_1.1.2, l3)))) none) (
  some (.inr (.inr (b4, b4_1, l3))))

def law17_LoadShares_l0 (s20 : Int) (s21 : Int) (b4 : Int) (b4_1 : Int) (l3 : (List (Int × (Int × Int)))) : Option (Bool ⊕ (Int × Int × (List (Int × (Int × Int))))) :=
  loopOpt (fun h : Int × Int × Int × Int × (List (Int × (Int × Int))) => law17_LoadShares_l0_step h.1 h.2.1 h.2.2.1 h.2.2.2.1 h.2.2.2.2) (s20, s21, b4, b4_1, l3)

theorem law17_LoadShares_l0_eq (s20 : Int) (s21 : Int) (b4 : Int) (b4_1 : Int) (l3 : (List (Int × (Int × Int)))) : law17_LoadShares_l0 s20 s21 b4 b4_1 l3 = lpK (law17_LoadShares_l0_step s20 s21 b4 b4_1 l3) (fun h => law17_LoadShares_l0 h.1 h.2.1 h.2.2.1 h.2.2.2.1 h.2.2.2.2) := loopOpt_eq _ _

def law17_LoadShares (a0_t : (List Int)) : Option (Bool) :=
  (made_Light a0_t).bind fun r12 =>
  cond (!r12) (
  (law17_sane).bind fun r14 =>
  some r14) (
  (made_Roll a0_t).bind fun r16 =>
  (made_Dice_Loads r16.1 r16.2).bind fun r17 =>
  let t20 : Int := (Int.ofNat (List.length r17.1))
  (law17_LoadShares_l0 t20 (0 : Int) (0 : Int) (1 : Int) r17.1).bind fun q0 =>
  sumC q0 (fun a =>
  some a) (fun b =>
  (load_Sum b.2.2).bind fun r55 =>
  cond (r55.2.2 == (0 : Int)) (
  cond ((b.1 == (0 : Int)) && (b.2.1 == (1 : Int))) (
  (law17_sane).bind fun r63 =>
  some r63) (
  some false)) (
  cond ((b.1 == (1 : Int)) && (b.2.1 == (1 : Int))) (
  (law17_sane).bind fun r63_1 =>
  some r63_1) (
  some false))))

def r02_less_body (rec : Int → Int → Int → Int → Option (Bool)) (a0_a : Int) (a1_b : Int) (a2_c : Int) (a3_d : Int) : Option (Bool) :=
  cond (!(a1_b == 0)) (
  let t11 : Int := (w64 (Int.tdiv a0_a a1_b))
  cond (!(a3_d == 0)) (
  let t14 : Int := (w64 (Int.tdiv a2_c a3_d))
  cond (t11 != t14) (
  cond (!(a1_b == 0)) (
  let t18 : Int := (w64 (Int.tdiv a0_a a1_b))
  cond (!(a3_d == 0)) (
  let t21 : Int := (w64 (Int.tdiv a2_c a3_d))
  some (decide (t18 < t21))) none) none) (
  cond (!(a1_b == 0)) (
  let t25 : Int := (Int.tmod a0_a a1_b)
  cond (!(a3_d == 0)) (
  let t28 : Int := (Int.tmod a2_c a3_d)
  cond (t28 == (0 : Int)) (
  some false) (
  cond (t25 == (0 : Int)) (
  some true) (
  (rec a3_d t28 a1_b t25).bind fun r39 =>
  some r39))) none) none)) none) none

def r02_less_rec (g : (Int × Int × Int × Int) → Option (Bool)) (h : Int × Int × Int × Int) : Option (Bool) := r02_less_body (fun v0 v1 v2 v3 => g (v0, v1, v2, v3)) h.1 h.2.1 h.2.2.1 h.2.2.2

def r02_less (a0_a : Int) (a1_b : Int) (a2_c : Int) (a3_d : Int) : Option (Bool) := recOpt r02_less_rec (a0_a, a1_b, a2_c, a3_d)

def r02_Less (a0_a : (Int × Int)) (a1_b : (Int × Int)) : Option (Bool) :=
  (r02_Valid (a0_a.1, a0_a.2)).bind fun r7 =>
  cond (!r7) (
  some false) (
  (r02_Valid (a1_b.1, a1_b.2)).bind fun r11 =>
  cond (!r11) (
  some false) (
  cond (cond (decide (a0_a.1 < (0 : Int))) (decide (a1_b.1 < (0 : Int))) false) (
  let t25 : Int := (w64 (0 - a1_b.1))
  let t30 : Int := (w64 (0 - a0_a.1))
  (r02_less t25 a1_b.2 t30 a0_a.2).bind fun r33 =>
  some r33) (
  cond (cond (decide (a0_a.1 < (0 : Int))) true (decide (a1_b.1 < (0 : Int)))) (
  some (decide (a0_a.1 < a1_b.1))) (
  (r02_less a0_a.1 a0_a.2 a1_b.1 a1_b.2).bind fun r56 =>
  some r56))))

def law17_LoadFair_l0_step (s27 : (List Int)) (s28 : Int) (s29 : Int) (l5 : (List (Int × (Int × Int)))) (l6 : (List Int)) : Option (((List Int) × Int × Int × (List (Int × (Int × Int))) × (List Int)) ⊕ (((List (Int × (Int × Int))) × (List Int)))) :=
  cond (decide (s29 < s28)) (
  cond (inR s29 (List.length s27)) (
  let t31_1 : Int := (List.getD s27 (Int.toNat s29) (0 : Int))
  let t35_1 : Int := (Int.tmod t31_1 (9 : Int))
  let t36 : Int := (w64 t35_1)
  cond (decide (List.length l6 + List.length [t36] ≤ sizeMax)) (
  let t38_1 : (List Int) := (l6 ++ [t36])
  let t39_1 : Int := (w64 (s29 + (1 : Int)))
  some (.inl (s27, s28, t39_1, l5, t38_1))) none) none) (
  some (.inr (l5, l6)))

def law17_LoadFair_l0 (s27 : (List Int)) (s28 : Int) (s29 : Int) (l5 : (List (Int × (Int × Int)))) (l6 : (List Int)) : Option (((List (Int × (Int × Int))) × (List Int))) :=
  loopOpt (fun h : (List Int) × Int × Int × (List (Int × (Int × Int))) × (List Int) => law17_LoadFair_l0_step h.1 h.2.1 h.2.2.1 h.2.2.2.1 h.2.2.2.2) (s27, s28, s29, l5, l6)

theorem law17_LoadFair_l0_eq (s27 : (List Int)) (s28 : Int) (s29 : Int) (l5 : (List (Int × (Int × Int)))) (l6 : (List Int)) : law17_LoadFair_l0 s27 s28 s29 l5 l6 = lpK (law17_LoadFair_l0_step s27 s28 s29 l5 l6) (fun h => law17_LoadFair_l0 h.1 h.2.1 h.2.2.1 h.2.2.2.1 h.2.2.2.2) := loopOpt_eq _ _

def law17_LoadFair (a0_t : (List Int)) (a1_people : (List Int)) : Option (Bool) :=
  (made_Light a0_t).bind fun r15 =>
  let t19 : Int := (Int.ofNat (List.length a1_people))
  cond (cond (!r15) true (decide (t19 > (20 : Int)))) (
  (law17_sane).bind fun r22 =>
  some r22) (
  (made_Roll a0_t).bind fun r24 =>
  (made_Dice_Loads r24.1 r24.2).bind fun r25 =>
  let t26 : (List Int) := [(0 : Int)]
  let t28 : Int := (Int.ofNat (List.length a1_people))
  (law17_LoadFair_l0 a1_people t28 (0 : Int) r25.1 t26).bind fun q0 =>
  (load_Jain q0.1 q0.2).bind fun r43 =>
  let t49 : Int := (Int.ofNat (List.length q0.2))
  (r02_New (1 : Int) t49).bind fun r50 =>
  cond (r43.2 == (0 : Int)) (
  cond (r50.2 == (0 : Int)) (
  (r02_Less ((1 : Int), (1 : Int)) (r43.1.1, r43.1.2)).bind fun r62 =>
  cond (!r62) (
  (r02_Less (r43.1.1, r43.1.2) (r50.1.1, r50.1.2)).bind fun r68 =>
  cond (!r68) (
  (load_Spread q0.1 q0.2).bind fun r77 =>
  cond (((r43.1.1 == (1 : Int)) && (r43.1.2 == (1 : Int))) == (r77 == (0 : Int))) (
  (law17_sane).bind fun r82 =>
  some r82) (
  some false)) (
  some false)) (
  some false)) (
  some false)) (
  some false))
end
end Go.Proofs.Pw
