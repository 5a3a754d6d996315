/- Plain functions, printed by a program out of the given code. -/
import Derived.Test.YtdfbeioppmgheaaGreatLD
open Go Go.Lft
set_option linter.unusedVariables false
namespace Go.Proofs.Pw
noncomputable section
abbrev Tn2 : Type := (List (Int × Int))
abbrev Tn15 : Type := (List (Int × (Int × Int)))
abbrev Tn14 : Type := (Int × Tn2)
abbrev Tn20 : Type := (ByteArray × (Int × (List Int)))
abbrev Tn21 : Type := (List Tn14)
abbrev Tn25 : Type := (Int × (Int × (Int × (Int × Int))))
abbrev Tn27 : Type := (List Tn20)
abbrev Tn31 : Type := (List Tn25)
abbrev Tn40 : Type := (Int × (Int × Tn25))
abbrev Tn44 : Type := (List Tn40)
abbrev Tn46 : Type := (ByteArray × (Int × (Tn2 × (Int × (Int × Bool)))))
abbrev Tn50 : Type := (List Tn46)
abbrev Tn54 : Type := (ByteArray × (Int × Tn44))
abbrev Tn56 : Type := (List Tn54)
abbrev Tn61 : Type := (ByteArray × (Int × ((Int × Int) × (Int × (Int × ((List Int) × (Tn2 × (Int × Int))))))))
abbrev Tn62 : Type := (List Tn61)
abbrev Tn66 : Type := (ByteArray × (Tn62 × Tn31))
abbrev Tn67 : Type := (List Tn66)
abbrev Tn73 : Type := (Tn56 × (Tn50 × (Tn27 × Tn67)))
abbrev Tn75 : Type := (Tn73 × Tn21)
abbrev unc2 {A0 A1 R : Type} (f : A0 → A1 → R) (h : A0 × A1) : R := f h.1 h.2
abbrev unc3 {A0 A1 A2 R : Type} (f : A0 → A1 → A2 → R) (h : A0 × A1 × A2) : R := f h.1 h.2.1 h.2.2
abbrev unc4 {A0 A1 A2 A3 R : Type} (f : A0 → A1 → A2 → A3 → R) (h : A0 × A1 × A2 × A3) : R := f h.1 h.2.1 h.2.2.1 h.2.2.2
abbrev unc5 {A0 A1 A2 A3 A4 R : Type} (f : A0 → A1 → A2 → A3 → A4 → R) (h : A0 × A1 × A2 × A3 × A4) : R := f h.1 h.2.1 h.2.2.1 h.2.2.2.1 h.2.2.2.2
abbrev unc7 {A0 A1 A2 A3 A4 A5 A6 R : Type} (f : A0 → A1 → A2 → A3 → A4 → A5 → A6 → R) (h : A0 × A1 × A2 × A3 × A4 × A5 × A6) : R := f h.1 h.2.1 h.2.2.1 h.2.2.2.1 h.2.2.2.2.1 h.2.2.2.2.2.1 h.2.2.2.2.2.2
abbrev unc9 {A0 A1 A2 A3 A4 A5 A6 A7 A8 R : Type} (f : A0 → A1 → A2 → A3 → A4 → A5 → A6 → A7 → A8 → R) (h : A0 × A1 × A2 × A3 × A4 × A5 × A6 × A7 × A8) : R := f h.1 h.2.1 h.2.2.1 h.2.2.2.1 h.2.2.2.2.1 h.2.2.2.2.2.1 h.2.2.2.2.2.2.1 h.2.2.2.2.2.2.2.1 h.2.2.2.2.2.2.2.2
abbrev unc12 {A0 A1 A2 A3 A4 A5 A6 A7 A8 A9 A10 A11 R : Type} (f : A0 → A1 → A2 → A3 → A4 → A5 → A6 → A7 → A8 → A9 → A10 → A11 → R) (h : A0 × A1 × A2 × A3 × A4 × A5 × A6 × A7 × A8 × A9 × A10 × A11) : R := f h.1 h.2.1 h.2.2.1 h.2.2.2.1 h.2.2.2.2.1 h.2.2.2.2.2.1 h.2.2.2.2.2.2.1 h.2.2.2.2.2.2.2.1 h.2.2.2.2.2.2.2.2.1 h.2.2.2.2.2.2.2.2.2.1 h.2.2.2.2.2.2.2.2.2.2.1 h.2.2.2.2.2.2.2.2.2.2.2
def made_Light (a0_l : (List Int)) : Option (Bool) :=
 let t4 := (Int.ofNat (List.length a0_l))
 some (decide (t4 ≤ 500))
def cycle_Layer (a0_l : Tn61) : Option (Int × Int) :=
 let t5 : (List Int) := [3600, 86400, 604800]
 let t4 : (List Int) := (List.replicate 3 0)
 let t18 : Bool := (cond (cond (decide (a0_l.2.2.2.1 < 0)) true (decide (a0_l.2.2.2.1 ≥ 3))) true (decide (a0_l.2.2.2.2.1 < 1)))
 let t27 := (Int.ofNat (List.length a0_l.2.2.2.2.2.1))
 let t29 : Bool := (cond (cond t18 true (decide (a0_l.2.2.2.2.1 > 400))) true (decide (t27 < 1)))
 let t33 := (Int.ofNat (List.length a0_l.2.2.2.2.2.1))
 cond (cond t29 true (decide (t33 > 12))) (
 some (0, 1)) (
 let t38 := (Int.ofNat (List.length a0_l.2.2.2.2.2.1))
 let t41 := (w64 (t38 * a0_l.2.2.2.2.1))
 cond (inR a0_l.2.2.2.1 3) (
 let t45 := (List.getD t5 (Int.toNat a0_l.2.2.2.1) 0)
 let t46 := (w64 (t41 * t45))
 some (t46, 0)) none)
def resolve_Check_c1 (a0_z : Tn54) : Option (ByteArray) :=
 some a0_z.1
def lexer_small (a0_c : Int) : Option (Bool) :=
 some (cond (decide (a0_c ≥ 97)) (decide (a0_c ≤ 122)) false)
def lexer_digit (a0_c : Int) : Option (Bool) :=
 some (cond (decide (a0_c ≥ 48)) (decide (a0_c ≤ 57)) false)
def lexer_Name_l0_step (s0 : ByteArray) (s19 s20 : Int) : Option ((ByteArray × Int × Int) ⊕ (Bool ⊕ Unit)) :=
 cond (decide (s20 < s19)) (
 cond (inR s20 (ByteArray.size s0)) (
 let t25_1 := (strAt s0 s20)
 (lexer_small t25_1).bind fun r27_1 =>
 cond (!r27_1) (
 (lexer_digit t25_1).bind fun r31_1 =>
 cond (cond (cond (!r31_1) (t25_1 != 95) false) (t25_1 != 45) false) (
 some (.inr (.inl false))) (
 let t42_2 := (w64 (s20 + 1))
 some (.inl (s0, s19, t42_2)))) (
 let t42_3 := (w64 (s20 + 1))
 some (.inl (s0, s19, t42_3)))) none) (
 some (.inr (.inr ())))
def lexer_Name_l0 [LP] (s0 : ByteArray) (s19 s20 : Int) : Option (Bool ⊕ Unit) :=
 LP.lp (unc3 (lexer_Name_l0_step)) (s0, s19, s20)
def lexer_Name [LP] (a0_s : ByteArray) : Option (Bool) :=
 let t9 := (Int.ofNat (ByteArray.size a0_s))
 let t11 : Bool := (cond (ByteArray.toList a0_s == ByteArray.toList ByteArray.empty) true (decide (t9 > 24)))
 cond ((inR 0 (ByteArray.size a0_s)) || !(!t11)) (
 let t14 := (strAt a0_s 0)
 cond t11 (
 some false) (
 (lexer_small t14).bind fun r15 =>
 cond (!r15) (
 some false) (
 let t19 := (Int.ofNat (ByteArray.size a0_s))
 (lexer_Name_l0 a0_s t19 0).bind fun q0 =>
 sumC q0 (fun a =>
 some a) (fun b =>
 some true)))) none
def resolve_name [LP] (a0_s : ByteArray) (a1_seen : (List (ByteArray × Bool))) : Option (Int × (List (ByteArray × Bool))) :=
 (lexer_Name a0_s).bind fun r6 =>
 cond (!r6) (
 some (2, a1_seen)) (
 cond (mapGet false a1_seen a0_s) (
 some (4, a1_seen)) (
 let m2 : (List (ByteArray × Bool)) := (mapSet a1_seen a0_s true)
 some (0, m2)))
def zone_in (a0_n a1_lo a2_hi : Int) : Option (Bool) :=
 some (cond (decide (a0_n ≥ a1_lo)) (decide (a0_n ≤ a2_hi)) false)
def zone_rule (a0_r : Tn40) : Option (Int) :=
 (zone_in a0_r.1 1970 2240).bind fun r5 =>
 cond (!r5) (
 some 1) (
 (zone_in a0_r.2.1 a0_r.1 2240).bind fun r12 =>
 cond (!r12) (
 some 1) (
 (zone_in a0_r.2.2.1 1 12).bind fun r18 =>
 cond (!r18) (
 some 1) (
 (zone_in a0_r.2.2.2.1 1 5).bind fun r24 =>
 cond (!r24) (
 some 1) (
 (zone_in a0_r.2.2.2.2.1 0 6).bind fun r30 =>
 cond (!r30) (
 some 1) (
 (zone_in a0_r.2.2.2.2.2.1 0 86399).bind fun r36 =>
 cond (!r36) (
 some 1) (
 (zone_in a0_r.2.2.2.2.2.2 (-64800) 64800).bind fun r42 =>
 cond (!r42) (
 some 1) (
 some 0)))))))
def civil_Leap (a0_year : Int) : Option (Bool) :=
 let t4 := (Int.tmod a0_year 4)
 let t8 := (Int.tmod a0_year 100)
 let t12 := (Int.tmod a0_year 400)
 some (cond (t4 == 0) (cond (t8 != 0) true (t12 == 0)) false)
def civil_Days (a0_year a1_month : Int) : Option (Int) :=
 cond (cond (decide (a1_month < 1)) true (decide (a1_month > 12))) (
 some 0) (
 let t12 : (List Int) := [31, 28, 31, 30, 31, 30, 31, 31, 30, 31, 30, 31]
 let t5 : (List Int) := (List.replicate 12 0)
 cond (a1_month == 2) (
 (civil_Leap a0_year).bind fun r18 =>
 cond r18 (
 some 29) (
 let t21 := (w64 (a1_month - 1))
 cond (inR t21 12) (
 let t23 := (List.getD t12 (Int.toNat t21) 0)
 some t23) none)) (
 let t21_1 := (w64 (a1_month - 1))
 cond (inR t21_1 12) (
 let t23_1 := (List.getD t12 (Int.toNat t21_1) 0)
 some t23_1) none))
def civil_Valid (a0_d : (Int × (Int × Int))) : Option (Bool) :=
 cond (decide (a0_d.1 ≥ 1970)) (
 cond (decide (a0_d.1 ≤ 2240)) (
 cond (decide (a0_d.2.2 ≥ 1)) (
 (civil_Days a0_d.1 a0_d.2.1).bind fun r23 =>
 some (decide (a0_d.2.2 ≤ r23))) (
 some false)) (
 some false)) (
 some false)
def civil_floor (a0_a a1_b : Int) : Option (Int) :=
 cond (!(a1_b == 0)) (
 let t8 := (w64 (Int.tdiv a0_a a1_b))
 cond (!(a1_b == 0)) (
 let t11 := (Int.tmod a0_a a1_b)
 cond (decide (t11 < 0)) (
 let t14 := (w64 (t8 - 1))
 some t14) (
 some t8)) none) none
def civil_count (a0_year : Int) : Option (Int) :=
 let t5 := (w64 (a0_year - 1))
 let t7 := (w64 (a0_year - 1970))
 let t8 := (w64 (365 * t7))
 (civil_floor t5 4).bind fun r10 =>
 let t11 := (w64 (t8 + r10))
 (civil_floor t5 100).bind fun r13 =>
 let t14 := (w64 (t11 - r13))
 (civil_floor t5 400).bind fun r16 =>
 let t17 := (w64 (t14 + r16))
 let t18 := (w64 (t17 - 477))
 some t18
def civil_number_l0_step (s3 s4 b1 b1_1 b1_2 : Int) : Option ((Int × Int × Int × Int × Int) ⊕ (Int)) :=
 cond (decide (s4 < b1_1)) (
 (civil_Days b1 s4).bind fun r22_1 =>
 let t23_1 := (w64 (s3 + r22_1))
 let t17_1 := (w64 (s4 + 1))
 some (.inl (t23_1, t17_1, b1, b1_1, b1_2))) (
 some (.inr s3))
def civil_number_l0 [LP] (s3 s4 b1 b1_1 b1_2 : Int) : Option (Int) :=
 LP.lp (fun h : Int × Int × Int × Int × Int => civil_number_l0_step h.1 h.2.1 h.2.2.1 h.2.2.2.1 h.2.2.2.2) (s3, s4, b1, b1_1, b1_2)
theorem civil_number_l0_eq (s3 s4 b1 b1_1 b1_2 : Int) : civil_number_l0 s3 s4 b1 b1_1 b1_2 = lpK (civil_number_l0_step s3 s4 b1 b1_1 b1_2) (fun h => civil_number_l0 h.1 h.2.1 h.2.2.1 h.2.2.2.1 h.2.2.2.2) := loopOpt_eq _ _
def civil_number [LP] (a0_d : (Int × (Int × Int))) : Option (Int) :=
 (civil_count a0_d.1).bind fun r7 =>
 let t10 := (w64 (r7 + a0_d.2.2))
 let t11 := (w64 (t10 - 1))
 (civil_number_l0 t11 1 a0_d.1 a0_d.2.1 a0_d.2.2).bind fun q0 =>
 some q0
def civil_Weekday (a0_day : Int) : Option (Int) :=
 let t4 := (Int.tmod a0_day 7)
 let t5 := (w64 (t4 + 10))
 let t6 := (Int.tmod t5 7)
 some t6
def civil_Nth [LP] (a0_year a1_month a2_week a3_weekday : Int) : Option (Int × Int) :=
 (civil_Valid (a0_year, (a1_month, 1))).bind fun r17 =>
 let t26 : Bool := (cond (cond (!r17) true (decide (a2_week < 1))) true (decide (a2_week > 5)))
 let t34 : Bool := (cond (cond t26 true (decide (a3_weekday < 0))) true (decide (a3_weekday > 6)))
 cond t34 (
 some (0, 1)) (
 (civil_number (a0_year, (a1_month, 1))).bind fun r36 =>
 (civil_Weekday r36).bind fun r40 =>
 let t41 := (w64 (a3_weekday - r40))
 let t42 := (w64 (t41 + 7))
 let t43 := (Int.tmod t42 7)
 let t44 := (w64 (r36 + t43))
 let t46 := (w64 (a2_week - 1))
 let t47 := (w64 (7 * t46))
 let t48 := (w64 (t44 + t47))
 (civil_Days a0_year a1_month).bind fun r53 =>
 let t54 := (w64 (r36 + r53))
 cond (decide (t48 ≥ t54)) (
 let t57 := (w64 (t48 - 7))
 some (t57, 0)) (
 some (t48, 0)))
def zone_occurrences_c1 (a0_a a1_b : (Int × Int)) : Option (Int) :=
 let t9 := (w64 (a0_a.1 - a1_b.1))
 some t9
def slices_insertionSortCmpFunc_zone_occurrence_l2_step (s1 s2 s8 s9 : Int) (b0 : Tn2) : Option ((Int × Int × Int × Int × Tn2) ⊕ ((Int × Int × Int × Tn2))) :=
 cond (decide (s9 > s1)) (
 cond (inR s9 (List.length b0)) (
 let t26_2 := (List.getD b0 (Int.toNat s9) (0, 0)).1
 let t26_3 := (List.getD b0 (Int.toNat s9) (0, 0)).2
 let t29_1 := (w64 (s9 - 1))
 cond (inR t29_1 (List.length b0)) (
 let t31_2 := (List.getD b0 (Int.toNat t29_1) (0, 0)).1
 let t31_3 := (List.getD b0 (Int.toNat t29_1) (0, 0)).2
 (zone_occurrences_c1 (t26_2, t26_3) (t31_2, t31_3)).bind fun r32_1 =>
 cond (decide (r32_1 < 0)) (
 let t41_1 := (w64 (s9 - 1))
 let t44_1 := (w64 (s9 - 1))
 cond (inR t44_1 (List.length b0)) (
 let t46_2 := (List.getD b0 (Int.toNat t44_1) (0, 0)).1
 let t46_3 := (List.getD b0 (Int.toNat t44_1) (0, 0)).2
 cond (inR s9 (List.length b0)) (
 let t50_2 := (List.getD b0 (Int.toNat s9) (0, 0)).1
 let t50_3 := (List.getD b0 (Int.toNat s9) (0, 0)).2
 cond (inR s9 (List.length b0)) (
 let m15_1 : Tn2 := (List.set b0 (Int.toNat s9) (t46_2, t46_3))
 cond (inR t41_1 (List.length m15_1)) (
 let m17_1 : Tn2 := (List.set m15_1 (Int.toNat t41_1) (t50_2, t50_3))
 let t36_1 := (w64 (s9 - 1))
 some (.inl (s1, s2, s8, t36_1, m17_1))) none) none) none) none) (
 some (.inr (s1, s2, s8, b0)))) none) none) (
 some (.inr (s1, s2, s8, b0)))
def slices_insertionSortCmpFunc_zone_occurrence_l2 [LP] (s1 s2 s8 s9 : Int) (b0 : Tn2) : Option ((Int × Int × Int × Tn2)) :=
 LP.lp (fun h : Int × Int × Int × Int × Tn2 => slices_insertionSortCmpFunc_zone_occurrence_l2_step h.1 h.2.1 h.2.2.1 h.2.2.2.1 h.2.2.2.2) (s1, s2, s8, s9, b0)
theorem slices_insertionSortCmpFunc_zone_occurrence_l2_eq (s1 s2 s8 s9 : Int) (b0 : Tn2) : slices_insertionSortCmpFunc_zone_occurrence_l2 s1 s2 s8 s9 b0 = lpK (slices_insertionSortCmpFunc_zone_occurrence_l2_step s1 s2 s8 s9 b0) (fun h => slices_insertionSortCmpFunc_zone_occurrence_l2 h.1 h.2.1 h.2.2.1 h.2.2.2.1 h.2.2.2.2) := loopOpt_eq _ _
def slices_insertionSortCmpFunc_zone_occurrence_l0_step [LP] (s1 s2 s8 : Int) (b0 : Tn2) : Option ((Int × Int × Int × Tn2) ⊕ (Tn2)) :=
 cond (decide (s8 < s2)) (
 (slices_insertionSortCmpFunc_zone_occurrence_l2 s1 s2 s8 s8 b0).bind fun q2_1 =>
 let t16_1 := (w64 (q2_1.2.2.1 + 1))
 some (.inl (q2_1.1, q2_1.2.1, t16_1, q2_1.2.2.2))) (
 some (.inr b0))
def slices_insertionSortCmpFunc_zone_occurrence_l0 [LP] (s1 s2 s8 : Int) (b0 : Tn2) : Option (Tn2) :=
 LP.lp (fun h : Int × Int × Int × Tn2 => slices_insertionSortCmpFunc_zone_occurrence_l0_step h.1 h.2.1 h.2.2.1 h.2.2.2) (s1, s2, s8, b0)
theorem slices_insertionSortCmpFunc_zone_occurrence_l0_eq (s1 s2 s8 : Int) (b0 : Tn2) : slices_insertionSortCmpFunc_zone_occurrence_l0 s1 s2 s8 b0 = lpK (slices_insertionSortCmpFunc_zone_occurrence_l0_step s1 s2 s8 b0) (fun h => slices_insertionSortCmpFunc_zone_occurrence_l0 h.1 h.2.1 h.2.2.1 h.2.2.2) := loopOpt_eq _ _
def slices_insertionSortCmpFunc_zone_occurrence [LP] (a0_data : Tn2) (a1_a a2_b : Int) : Option (Tn2) :=
 let t11 := (w64 (a1_a + 1))
 (slices_insertionSortCmpFunc_zone_occurrence_l0 a1_a a2_b t11 a0_data).bind fun q0 =>
 some q0
def slices_swapRangeCmpFunc_zone_occurrence_l0_step (s1 s2 s3 s10 : Int) (b0 : Tn2) : Option ((Int × Int × Int × Int × Tn2) ⊕ (Tn2)) :=
 cond (decide (s10 < s3)) (
 let t19_1 := (w64 (s1 + s10))
 let t23_1 := (w64 (s2 + s10))
 let t27_1 := (w64 (s2 + s10))
 cond (inR t27_1 (List.length b0)) (
 let t29_2 := (List.getD b0 (Int.toNat t27_1) (0, 0)).1
 let t29_3 := (List.getD b0 (Int.toNat t27_1) (0, 0)).2
 let t33_1 := (w64 (s1 + s10))
 cond (inR t33_1 (List.length b0)) (
 let t35_2 := (List.getD b0 (Int.toNat t33_1) (0, 0)).1
 let t35_3 := (List.getD b0 (Int.toNat t33_1) (0, 0)).2
 cond (inR t19_1 (List.length b0)) (
 let m21_1 : Tn2 := (List.set b0 (Int.toNat t19_1) (t29_2, t29_3))
 cond (inR t23_1 (List.length m21_1)) (
 let m23_1 : Tn2 := (List.set m21_1 (Int.toNat t23_1) (t35_2, t35_3))
 let t15_1 := (w64 (s10 + 1))
 some (.inl (s1, s2, s3, t15_1, m23_1))) none) none) none) none) (
 some (.inr b0))
def slices_swapRangeCmpFunc_zone_occurrence_l0 [LP] (s1 s2 s3 s10 : Int) (b0 : Tn2) : Option (Tn2) :=
 LP.lp (unc5 (slices_swapRangeCmpFunc_zone_occurrence_l0_step)) (s1, s2, s3, s10, b0)
def slices_swapRangeCmpFunc_zone_occurrence [LP] (a0_data : Tn2) (a1_a a2_b a3_n : Int) : Option (Tn2) :=
 (slices_swapRangeCmpFunc_zone_occurrence_l0 a1_a a2_b a3_n 0 a0_data).bind fun q0 =>
 some q0
def slices_rotateCmpFunc_zone_occurrence_l0_step [LP] (s2 s10 s11 : Int) (b0 : Tn2) : Option ((Int × Int × Int × Tn2) ⊕ ((Int × Int × Tn2))) :=
 cond (s10 != s11) (
 cond (decide (s10 > s11)) (
 let t27_1 := (w64 (s2 - s10))
 (slices_swapRangeCmpFunc_zone_occurrence b0 t27_1 s2 s11).bind fun r31_1 =>
 let t34_1 := (w64 (s10 - s11))
 some (.inl (s2, t34_1, s11, r31_1))) (
 let t38_1 := (w64 (s2 - s10))
 let t41_1 := (w64 (s2 + s11))
 let t43_1 := (w64 (t41_1 - s10))
 (slices_swapRangeCmpFunc_zone_occurrence b0 t38_1 t43_1 s10).bind fun r46_1 =>
 let t49_1 := (w64 (s11 - s10))
 some (.inl (s2, s10, t49_1, r46_1)))) (
 some (.inr (s2, s10, b0)))
def slices_rotateCmpFunc_zone_occurrence_l0 [LP] (s2 s10 s11 : Int) (b0 : Tn2) : Option ((Int × Int × Tn2)) :=
 LP.lp (unc4 (slices_rotateCmpFunc_zone_occurrence_l0_step)) (s2, s10, s11, b0)
def slices_rotateCmpFunc_zone_occurrence [LP] (a0_data : Tn2) (a1_a a2_m a3_b : Int) : Option (Tn2) :=
 let t14 := (w64 (a2_m - a1_a))
 let t17 := (w64 (a3_b - a2_m))
 (slices_rotateCmpFunc_zone_occurrence_l0 a2_m t14 t17 a0_data).bind fun q0 =>
 let t53 := (w64 (q0.1 - q0.2.1))
 (slices_swapRangeCmpFunc_zone_occurrence q0.2.2 t53 q0.1 q0.2.1).bind fun r57 =>
 some r57
def slices_symMergeCmpFunc_zone_occurrence_l0_step (rec : Tn2 → Int → Int → Int → Option (Tn2)) (s1 s10 s11 : Int) (b0 : Tn2) : Option ((Int × Int × Int × Tn2) ⊕ ((Int × Int × Tn2))) :=
 cond (decide (s10 < s11)) (
 let t36_1 := (w64 (s10 + s11))
 let t37_1 : Int := (IntKind.wrap .u64 t36_1)
 let t38_1 : Int := (Int.fdiv t37_1 2)
 let t39 := (w64 t38_1)
 cond (inR t39 (List.length b0)) (
 let t44_2 := (List.getD b0 (Int.toNat t39) (0, 0)).1
 let t44_3 := (List.getD b0 (Int.toNat t39) (0, 0)).2
 cond (inR s1 (List.length b0)) (
 let t48_2 := (List.getD b0 (Int.toNat s1) (0, 0)).1
 let t48_3 := (List.getD b0 (Int.toNat s1) (0, 0)).2
 (zone_occurrences_c1 (t44_2, t44_3) (t48_2, t48_3)).bind fun r49_1 =>
 cond (decide (r49_1 < 0)) (
 let t52_1 := (w64 (t39 + 1))
 some (.inl (s1, t52_1, s11, b0))) (
 some (.inl (s1, s10, t39, b0)))) none) none) (
 some (.inr (s1, s10, b0)))
def slices_symMergeCmpFunc_zone_occurrence_l0 [LP] (rec : Tn2 → Int → Int → Int → Option (Tn2)) (s1 s10 s11 : Int) (b0 : Tn2) : Option ((Int × Int × Tn2)) :=
 LP.lp (unc4 (slices_symMergeCmpFunc_zone_occurrence_l0_step rec)) (s1, s10, s11, b0)
def slices_symMergeCmpFunc_zone_occurrence_l2_step (rec : Tn2 → Int → Int → Int → Option (Tn2)) (s10 s13 : Int) (b0 : Tn2) : Option ((Int × Int × Tn2) ⊕ (Tn2)) :=
 let t57_1 := (w64 (s10 - 1))
 cond (decide (s13 < t57_1)) (
 let t65_1 := (w64 (s13 + 1))
 let t68_1 := (w64 (s13 + 1))
 cond (inR t68_1 (List.length b0)) (
 let t70_2 := (List.getD b0 (Int.toNat t68_1) (0, 0)).1
 let t70_3 := (List.getD b0 (Int.toNat t68_1) (0, 0)).2
 cond (inR s13 (List.length b0)) (
 let t74_2 := (List.getD b0 (Int.toNat s13) (0, 0)).1
 let t74_3 := (List.getD b0 (Int.toNat s13) (0, 0)).2
 cond (inR s13 (List.length b0)) (
 let m15_1 : Tn2 := (List.set b0 (Int.toNat s13) (t70_2, t70_3))
 cond (inR t65_1 (List.length m15_1)) (
 let m17_1 : Tn2 := (List.set m15_1 (Int.toNat t65_1) (t74_2, t74_3))
 let t60_1 := (w64 (s13 + 1))
 some (.inl (s10, t60_1, m17_1))) none) none) none) none) (
 some (.inr b0))
def slices_symMergeCmpFunc_zone_occurrence_l2 [LP] (rec : Tn2 → Int → Int → Int → Option (Tn2)) (s10 s13 : Int) (b0 : Tn2) : Option (Tn2) :=
 LP.lp (unc3 (slices_symMergeCmpFunc_zone_occurrence_l2_step rec)) (s10, s13, b0)
def slices_symMergeCmpFunc_zone_occurrence_l4_step (rec : Tn2 → Int → Int → Int → Option (Tn2)) (s2 s14 s15 : Int) (b0 : Tn2) : Option ((Int × Int × Int × Tn2) ⊕ ((Int × Int × Tn2))) :=
 cond (decide (s14 < s15)) (
 let t88_1 := (w64 (s14 + s15))
 let t89_1 : Int := (IntKind.wrap .u64 t88_1)
 let t90_1 : Int := (Int.fdiv t89_1 2)
 let t91 := (w64 t90_1)
 cond (inR s2 (List.length b0)) (
 let t96_2 := (List.getD b0 (Int.toNat s2) (0, 0)).1
 let t96_3 := (List.getD b0 (Int.toNat s2) (0, 0)).2
 cond (inR t91 (List.length b0)) (
 let t100_2 := (List.getD b0 (Int.toNat t91) (0, 0)).1
 let t100_3 := (List.getD b0 (Int.toNat t91) (0, 0)).2
 (zone_occurrences_c1 (t96_2, t96_3) (t100_2, t100_3)).bind fun r101_1 =>
 cond (!(decide (r101_1 < 0))) (
 let t105_1 := (w64 (t91 + 1))
 some (.inl (s2, t105_1, s15, b0))) (
 some (.inl (s2, s14, t91, b0)))) none) none) (
 some (.inr (s2, s14, b0)))
def slices_symMergeCmpFunc_zone_occurrence_l4 [LP] (rec : Tn2 → Int → Int → Int → Option (Tn2)) (s2 s14 s15 : Int) (b0 : Tn2) : Option ((Int × Int × Tn2)) :=
 LP.lp (unc4 (slices_symMergeCmpFunc_zone_occurrence_l4_step rec)) (s2, s14, s15, b0)
def slices_symMergeCmpFunc_zone_occurrence_l6_step (rec : Tn2 → Int → Int → Int → Option (Tn2)) (s14 s17 : Int) (b0 : Tn2) : Option ((Int × Int × Tn2) ⊕ (Tn2)) :=
 cond (decide (s17 > s14)) (
 let t117_1 := (w64 (s17 - 1))
 let t120_1 := (w64 (s17 - 1))
 cond (inR t120_1 (List.length b0)) (
 let t122_2 := (List.getD b0 (Int.toNat t120_1) (0, 0)).1
 let t122_3 := (List.getD b0 (Int.toNat t120_1) (0, 0)).2
 cond (inR s17 (List.length b0)) (
 let t126_2 := (List.getD b0 (Int.toNat s17) (0, 0)).1
 let t126_3 := (List.getD b0 (Int.toNat s17) (0, 0)).2
 cond (inR s17 (List.length b0)) (
 let m15_3 : Tn2 := (List.set b0 (Int.toNat s17) (t122_2, t122_3))
 cond (inR t117_1 (List.length m15_3)) (
 let m17_3 : Tn2 := (List.set m15_3 (Int.toNat t117_1) (t126_2, t126_3))
 let t112_1 := (w64 (s17 - 1))
 some (.inl (s14, t112_1, m17_3))) none) none) none) none) (
 some (.inr b0))
def slices_symMergeCmpFunc_zone_occurrence_l6 [LP] (rec : Tn2 → Int → Int → Int → Option (Tn2)) (s14 s17 : Int) (b0 : Tn2) : Option (Tn2) :=
 LP.lp (unc3 (slices_symMergeCmpFunc_zone_occurrence_l6_step rec)) (s14, s17, b0)
def slices_symMergeCmpFunc_zone_occurrence_l8_step (rec : Tn2 → Int → Int → Int → Option (Tn2)) (s1 s2 s3 s18 s19 s20 s21 s22 : Int) (b0 : Tn2) : Option ((Int × Int × Int × Int × Int × Int × Int × Int × Tn2) ⊕ ((Int × Int × Int × Int × Int × Int × Tn2))) :=
 cond (decide (s20 < s21)) (
 let t154_1 := (w64 (s20 + s21))
 let t155_1 : Int := (IntKind.wrap .u64 t154_1)
 let t156_1 : Int := (Int.fdiv t155_1 2)
 let t157 := (w64 t156_1)
 let t162_1 := (w64 (s22 - t157))
 cond (inR t162_1 (List.length b0)) (
 let t164_2 := (List.getD b0 (Int.toNat t162_1) (0, 0)).1
 let t164_3 := (List.getD b0 (Int.toNat t162_1) (0, 0)).2
 cond (inR t157 (List.length b0)) (
 let t168_2 := (List.getD b0 (Int.toNat t157) (0, 0)).1
 let t168_3 := (List.getD b0 (Int.toNat t157) (0, 0)).2
 (zone_occurrences_c1 (t164_2, t164_3) (t168_2, t168_3)).bind fun r169_1 =>
 cond (!(decide (r169_1 < 0))) (
 let t173_1 := (w64 (t157 + 1))
 some (.inl (s1, s2, s3, s18, s19, t173_1, s21, s22, b0))) (
 some (.inl (s1, s2, s3, s18, s19, s20, t157, s22, b0)))) none) none) (
 some (.inr (s1, s2, s3, s18, s19, s20, b0)))
def slices_symMergeCmpFunc_zone_occurrence_l8 [LP] (rec : Tn2 → Int → Int → Int → Option (Tn2)) (s1 s2 s3 s18 s19 s20 s21 s22 : Int) (b0 : Tn2) : Option ((Int × Int × Int × Int × Int × Int × Tn2)) :=
 LP.lp (unc9 (slices_symMergeCmpFunc_zone_occurrence_l8_step rec)) (s1, s2, s3, s18, s19, s20, s21, s22, b0)
def slices_symMergeCmpFunc_zone_occurrence_body [LP] (rec : Tn2 → Int → Int → Int → Option (Tn2)) (a0_data : Tn2) (a1_a a2_m a3_b : Int) : Option (Tn2) :=
 let t27 := (w64 (a2_m - a1_a))
 cond (t27 == 1) (
 (slices_symMergeCmpFunc_zone_occurrence_l0 rec a1_a a2_m a3_b a0_data).bind fun q0 =>
 (slices_symMergeCmpFunc_zone_occurrence_l2 rec q0.2.1 q0.1 q0.2.2).bind fun q2 =>
 some q2) (
 let t79 := (w64 (a3_b - a2_m))
 cond (t79 == 1) (
 (slices_symMergeCmpFunc_zone_occurrence_l4 rec a2_m a1_a a2_m a0_data).bind fun q4 =>
 (slices_symMergeCmpFunc_zone_occurrence_l6 rec q4.2.1 q4.1 q4.2.2).bind fun q6 =>
 some q6) (
 let t131 := (w64 (a1_a + a3_b))
 let t132 : Int := (IntKind.wrap .u64 t131)
 let t133 : Int := (Int.fdiv t132 2)
 let t137 := (w64 ((w64 t133) + a2_m))
 cond (decide (a2_m > (w64 t133))) (
 let t143 := (w64 (t137 - a3_b))
 let t148 := (w64 (t137 - 1))
 (slices_symMergeCmpFunc_zone_occurrence_l8 rec a1_a a2_m a3_b (w64 t133) t137 t143 (w64 t133) t148 a0_data).bind fun q8 =>
 let t177 := (w64 (q8.2.2.2.2.1 - q8.2.2.2.2.2.1))
 cond (cond (decide (q8.2.2.2.2.2.1 < q8.2.1)) (decide (q8.2.1 < t177)) false) (
 (slices_rotateCmpFunc_zone_occurrence q8.2.2.2.2.2.2 q8.2.2.2.2.2.1 q8.2.1 t177).bind fun r191 =>
 cond (cond (decide (q8.1 < q8.2.2.2.2.2.1)) (decide (q8.2.2.2.2.2.1 < q8.2.2.2.1)) false) (
 (rec r191 q8.1 q8.2.2.2.2.2.1 q8.2.2.2.1).bind fun r205 =>
 cond (cond (decide (q8.2.2.2.1 < t177)) (decide (t177 < q8.2.2.1)) false) (
 (rec r205 q8.2.2.2.1 t177 q8.2.2.1).bind fun r219 =>
 some r219) (
 some r205)) (
 cond (cond (decide (q8.2.2.2.1 < t177)) (decide (t177 < q8.2.2.1)) false) (
 (rec r191 q8.2.2.2.1 t177 q8.2.2.1).bind fun r219_1 =>
 some r219_1) (
 some r191))) (
 cond (cond (decide (q8.1 < q8.2.2.2.2.2.1)) (decide (q8.2.2.2.2.2.1 < q8.2.2.2.1)) false) (
 (rec q8.2.2.2.2.2.2 q8.1 q8.2.2.2.2.2.1 q8.2.2.2.1).bind fun r205_1 =>
 cond (cond (decide (q8.2.2.2.1 < t177)) (decide (t177 < q8.2.2.1)) false) (
 (rec r205_1 q8.2.2.2.1 t177 q8.2.2.1).bind fun r219_2 =>
 some r219_2) (
 some r205_1)) (
 cond (cond (decide (q8.2.2.2.1 < t177)) (decide (t177 < q8.2.2.1)) false) (
 (rec q8.2.2.2.2.2.2 q8.2.2.2.1 t177 q8.2.2.1).bind fun r219_3 =>
 some r219_3) (
 some q8.2.2.2.2.2.2)))) (
 let t148_1 := (w64 (t137 - 1))
 (slices_symMergeCmpFunc_zone_occurrence_l8 rec a1_a a2_m a3_b (w64 t133) t137 a1_a a2_m t148_1 a0_data).bind fun q8_1 =>
 let t177_1 := (w64 (q8_1.2.2.2.2.1 - q8_1.2.2.2.2.2.1))
 cond (cond (decide (q8_1.2.2.2.2.2.1 < q8_1.2.1)) (decide (q8_1.2.1 < t177_1)) false) (
 (slices_rotateCmpFunc_zone_occurrence q8_1.2.2.2.2.2.2 q8_1.2.2.2.2.2.1 q8_1.2.1 t177_1).bind fun r191_1 =>
 let t199 : Bool := (cond (decide (q8_1.1 < q8_1.2.2.2.2.2.1)) (decide (q8_1.2.2.2.2.2.1 < q8_1.2.2.2.1)) false)
 cond t199 (
 (rec r191_1 q8_1.1 q8_1.2.2.2.2.2.1 q8_1.2.2.2.1).bind fun r205_2 =>
 cond (cond (decide (q8_1.2.2.2.1 < t177_1)) (decide (t177_1 < q8_1.2.2.1)) false) (
 (rec r205_2 q8_1.2.2.2.1 t177_1 q8_1.2.2.1).bind fun r219_4 =>
 some r219_4) (
 some r205_2)) (
 cond (cond (decide (q8_1.2.2.2.1 < t177_1)) (decide (t177_1 < q8_1.2.2.1)) false) (
 (rec r191_1 q8_1.2.2.2.1 t177_1 q8_1.2.2.1).bind fun r219_5 =>
 some r219_5) (
 some r191_1))) (
 let t199_1 : Bool := (cond (decide (q8_1.1 < q8_1.2.2.2.2.2.1)) (decide (q8_1.2.2.2.2.2.1 < q8_1.2.2.2.1)) false)
 cond t199_1 (
 (rec q8_1.2.2.2.2.2.2 q8_1.1 q8_1.2.2.2.2.2.1 q8_1.2.2.2.1).bind fun r205_3 =>
 cond (cond (decide (q8_1.2.2.2.1 < t177_1)) (decide (t177_1 < q8_1.2.2.1)) false) (
 (rec r205_3 q8_1.2.2.2.1 t177_1 q8_1.2.2.1).bind fun r219_6 =>
 some r219_6) (
 some r205_3)) (
 cond (cond (decide (q8_1.2.2.2.1 < t177_1)) (decide (t177_1 < q8_1.2.2.1)) false) (
 (rec q8_1.2.2.2.2.2.2 q8_1.2.2.2.1 t177_1 q8_1.2.2.1).bind fun r219_7 =>
 some r219_7) (
 some q8_1.2.2.2.2.2.2))))))
def slices_symMergeCmpFunc_zone_occurrence_rec [LP] (g : (Tn2 × Int × Int × Int) → Option (Tn2)) (h : Tn2 × Int × Int × Int) : Option (Tn2) := slices_symMergeCmpFunc_zone_occurrence_body (fun v0 v1 v2 v3 => g (v0, v1, v2, v3)) h.1 h.2.1 h.2.2.1 h.2.2.2
def slices_symMergeCmpFunc_zone_occurrence [LP] (a0_data : Tn2) (a1_a a2_m a3_b : Int) : Option (Tn2) := LP.rp slices_symMergeCmpFunc_zone_occurrence_rec (a0_data, a1_a, a2_m, a3_b)
def slices_stableCmpFunc_zone_occurrence_l0_step [LP] (s1 s6 s7 s8 : Int) (b0 : Tn2) : Option ((Int × Int × Int × Int × Tn2) ⊕ ((Int × Int × Int × Tn2))) :=
 cond (decide (s8 ≤ s1)) (
 (slices_insertionSortCmpFunc_zone_occurrence b0 s7 s8).bind fun r18_1 =>
 let t22_1 := (w64 (s8 + s6))
 some (.inl (s1, s6, s8, t22_1, r18_1))) (
 some (.inr (s1, s6, s7, b0)))
def slices_stableCmpFunc_zone_occurrence_l0 [LP] (s1 s6 s7 s8 : Int) (b0 : Tn2) : Option ((Int × Int × Int × Tn2)) :=
 LP.lp (fun h : Int × Int × Int × Int × Tn2 => slices_stableCmpFunc_zone_occurrence_l0_step h.1 h.2.1 h.2.2.1 h.2.2.2.1 h.2.2.2.2) (s1, s6, s7, s8, b0)
theorem slices_stableCmpFunc_zone_occurrence_l0_eq (s1 s6 s7 s8 : Int) (b0 : Tn2) : slices_stableCmpFunc_zone_occurrence_l0 s1 s6 s7 s8 b0 = lpK (slices_stableCmpFunc_zone_occurrence_l0_step s1 s6 s7 s8 b0) (fun h => slices_stableCmpFunc_zone_occurrence_l0 h.1 h.2.1 h.2.2.1 h.2.2.2.1 h.2.2.2.2) := loopOpt_eq _ _
def slices_stableCmpFunc_zone_occurrence_l4_step [LP] (s1 s6 s7 s8 : Int) (b0 : Tn2) : Option ((Int × Int × Int × Int × Tn2) ⊕ ((Int × Int × Int × Tn2))) :=
 cond (decide (s8 ≤ s1)) (
 let t40_1 := (w64 (s7 + s6))
 (slices_symMergeCmpFunc_zone_occurrence b0 s7 t40_1 s8).bind fun r43_1 =>
 let t47_1 := (w64 (2 * s6))
 let t48_1 := (w64 (s8 + t47_1))
 some (.inl (s1, s6, s8, t48_1, r43_1))) (
 some (.inr (s1, s6, s7, b0)))
def slices_stableCmpFunc_zone_occurrence_l4 [LP] (s1 s6 s7 s8 : Int) (b0 : Tn2) : Option ((Int × Int × Int × Tn2)) :=
 LP.lp (unc5 (slices_stableCmpFunc_zone_occurrence_l4_step)) (s1, s6, s7, s8, b0)
def slices_stableCmpFunc_zone_occurrence_l2_step [LP] (s1 s6 : Int) (b0 : Tn2) : Option ((Int × Int × Tn2) ⊕ (Tn2)) :=
 cond (decide (s6 < s1)) (
 let t32_1 := (w64 (2 * s6))
 (slices_stableCmpFunc_zone_occurrence_l4 s1 s6 0 t32_1 b0).bind fun q4_1 =>
 let t51_1 := (w64 (q4_1.2.2.1 + q4_1.2.1))
 cond (decide (t51_1 < q4_1.1)) (
 (slices_symMergeCmpFunc_zone_occurrence q4_1.2.2.2 q4_1.2.2.1 t51_1 q4_1.1).bind fun r60_1 =>
 let t62_2 := (w64 (q4_1.2.1 * 2))
 some (.inl (q4_1.1, t62_2, r60_1))) (
 let t62_3 := (w64 (q4_1.2.1 * 2))
 some (.inl (q4_1.1, t62_3, q4_1.2.2.2)))) (
 some (.inr b0))
def slices_stableCmpFunc_zone_occurrence_l2 [LP] (s1 s6 : Int) (b0 : Tn2) : Option (Tn2) :=
 LP.lp (fun h : Int × Int × Tn2 => slices_stableCmpFunc_zone_occurrence_l2_step h.1 h.2.1 h.2.2) (s1, s6, b0)
theorem slices_stableCmpFunc_zone_occurrence_l2_eq (s1 s6 : Int) (b0 : Tn2) : slices_stableCmpFunc_zone_occurrence_l2 s1 s6 b0 = lpK (slices_stableCmpFunc_zone_occurrence_l2_step s1 s6 b0) (fun h => slices_stableCmpFunc_zone_occurrence_l2 h.1 h.2.1 h.2.2) := loopOpt_eq _ _
def slices_stableCmpFunc_zone_occurrence [LP] (a0_data : Tn2) (a1_n : Int) : Option (Tn2) :=
 (slices_stableCmpFunc_zone_occurrence_l0 a1_n 20 0 20 a0_data).bind fun q0 =>
 (slices_insertionSortCmpFunc_zone_occurrence q0.2.2.2 q0.2.2.1 q0.1).bind fun r27 =>
 (slices_stableCmpFunc_zone_occurrence_l2 q0.1 q0.2.1 r27).bind fun q2 =>
 some q2
def slices_SortStableFunc_zone_occurrence_zone_occurrence [LP] (a0_x : Tn2) : Option (Tn2) :=
 let t6 := (Int.ofNat (List.length a0_x))
 (slices_stableCmpFunc_zone_occurrence a0_x t6).bind fun r8 =>
 some r8
def zone_occurrences_l0_step (s4 : Int) (s23 : Tn44) (s24 s25 : Int) (b1 : ByteArray) (b1_1 : Int) (b1_2 : Tn44) : Option ((Int × Tn44 × Int × Int × ByteArray × Int × Tn44) ⊕ (Int ⊕ (Int × ByteArray × Int × Tn44))) :=
 cond (decide (s25 < s24)) (
 cond (inR s25 (List.length s23)) (
 let t27_1 := (List.getD s23 (Int.toNat s25) (0, (0, (0, (0, (0, (0, 0)))))))
 (zone_rule (t27_1.1, (t27_1.2.1, (t27_1.2.2.1, (t27_1.2.2.2.1, (t27_1.2.2.2.2.1, (t27_1.2.2.2.2.2.1, t27_1.2.2.2.2.2.2))))))).bind fun r30_1 =>
 cond (r30_1 != 0) (
 some (.inr (.inl r30_1))) (
 let t39_1 := (w64 (t27_1.2.1 - t27_1.1))
 let t40_1 := (w64 (t39_1 + 1))
 let t41_1 := (w64 (s4 + t40_1))
 let t42_1 := (w64 (s25 + 1))
 some (.inl (t41_1, s23, s24, t42_1, b1, b1_1, b1_2)))) none) (
 some (.inr (.inr (s4, b1, b1_1, b1_2))))
def zone_occurrences_l0 [LP] (s4 : Int) (s23 : Tn44) (s24 s25 : Int) (b1 : ByteArray) (b1_1 : Int) (b1_2 : Tn44) : Option (Int ⊕ (Int × ByteArray × Int × Tn44)) :=
 LP.lp (fun h : Int × Tn44 × Int × Int × ByteArray × Int × Tn44 => zone_occurrences_l0_step h.1 h.2.1 h.2.2.1 h.2.2.2.1 h.2.2.2.2.1 h.2.2.2.2.2.1 h.2.2.2.2.2.2) (s4, s23, s24, s25, b1, b1_1, b1_2)
theorem zone_occurrences_l0_eq (s4 : Int) (s23 : Tn44) (s24 s25 : Int) (b1 : ByteArray) (b1_1 : Int) (b1_2 : Tn44) : zone_occurrences_l0 s4 s23 s24 s25 b1 b1_1 b1_2 = lpK (zone_occurrences_l0_step s4 s23 s24 s25 b1 b1_1 b1_2) (fun h => zone_occurrences_l0 h.1 h.2.1 h.2.2.1 h.2.2.2.1 h.2.2.2.2.1 h.2.2.2.2.2.1 h.2.2.2.2.2.2) := loopOpt_eq _ _
def zone_occurrences_l4_step [LP] (s11 : Int) (s46 : Tn44) (s47 s48 b10 b10_1 b10_2 b10_3 b10_4 b10_5 b10_6 : Int) (l8 : Tn2) : Option ((Int × Tn44 × Int × Int × Int × Int × Int × Int × Int × Int × Int × Tn2) ⊕ ((Tn44 × Int × Int × Tn2))) :=
 cond (decide (s11 ≤ b10_1)) (
 (civil_Nth s11 b10_2 b10_3 b10_4).bind fun r68_4 =>
 let t73_4 := (w64 (r68_4.1 * 86400))
 let t76_4 := (w64 (t73_4 + b10_5))
 let t80_4 : Tn2 := [(t76_4, b10_6)]
 cond (decide (List.length l8 + List.length t80_4 ≤ sizeMax)) (
 let t81_4 : Tn2 := (l8 ++ t80_4)
 let t59_4 := (w64 (s11 + 1))
 some (.inl (t59_4, s46, s47, s48, b10, b10_1, b10_2, b10_3, b10_4, b10_5, b10_6, t81_4))) none) (
 some (.inr (s46, s47, s48, l8)))
def zone_occurrences_l4 [LP] (s11 : Int) (s46 : Tn44) (s47 s48 b10 b10_1 b10_2 b10_3 b10_4 b10_5 b10_6 : Int) (l8 : Tn2) : Option ((Tn44 × Int × Int × Tn2)) :=
 LP.lp (fun h : Int × Tn44 × Int × Int × Int × Int × Int × Int × Int × Int × Int × Tn2 => zone_occurrences_l4_step h.1 h.2.1 h.2.2.1 h.2.2.2.1 h.2.2.2.2.1 h.2.2.2.2.2.1 h.2.2.2.2.2.2.1 h.2.2.2.2.2.2.2.1 h.2.2.2.2.2.2.2.2.1 h.2.2.2.2.2.2.2.2.2.1 h.2.2.2.2.2.2.2.2.2.2.1 h.2.2.2.2.2.2.2.2.2.2.2) (s11, s46, s47, s48, b10, b10_1, b10_2, b10_3, b10_4, b10_5, b10_6, l8)
theorem zone_occurrences_l4_eq (s11 : Int) (s46 : Tn44) (s47 s48 b10 b10_1 b10_2 b10_3 b10_4 b10_5 b10_6 : Int) (l8 : Tn2) : zone_occurrences_l4 s11 s46 s47 s48 b10 b10_1 b10_2 b10_3 b10_4 b10_5 b10_6 l8 = lpK (zone_occurrences_l4_step s11 s46 s47 s48 b10 b10_1 b10_2 b10_3 b10_4 b10_5 b10_6 l8) (fun h => zone_occurrences_l4 h.1 h.2.1 h.2.2.1 h.2.2.2.1 h.2.2.2.2.1 h.2.2.2.2.2.1 h.2.2.2.2.2.2.1 h.2.2.2.2.2.2.2.1 h.2.2.2.2.2.2.2.2.1 h.2.2.2.2.2.2.2.2.2.1 h.2.2.2.2.2.2.2.2.2.2.1 h.2.2.2.2.2.2.2.2.2.2.2) := loopOpt_eq _ _
def zone_occurrences_l2_step [LP] (s46 : Tn44) (s47 s48 : Int) (l8 : Tn2) : Option ((Tn44 × Int × Int × Tn2) ⊕ (Tn2)) :=
 cond (decide (s48 < s47)) (
 cond (inR s48 (List.length s46)) (
 let t50_2 := (List.getD s46 (Int.toNat s48) (0, (0, (0, (0, (0, (0, 0)))))))
 (zone_occurrences_l4 t50_2.1 s46 s47 s48 t50_2.1 t50_2.2.1 t50_2.2.2.1 t50_2.2.2.2.1 t50_2.2.2.2.2.1 t50_2.2.2.2.2.2.1 t50_2.2.2.2.2.2.2 l8).bind fun q4_2 =>
 let t82_2 := (w64 (q4_2.2.2.1 + 1))
 some (.inl (q4_2.1, q4_2.2.1, t82_2, q4_2.2.2.2))) none) (
 some (.inr l8))
def zone_occurrences_l2 [LP] (s46 : Tn44) (s47 s48 : Int) (l8 : Tn2) : Option (Tn2) :=
 LP.lp (fun h : Tn44 × Int × Int × Tn2 => zone_occurrences_l2_step h.1 h.2.1 h.2.2.1 h.2.2.2) (s46, s47, s48, l8)
theorem zone_occurrences_l2_eq (s46 : Tn44) (s47 s48 : Int) (l8 : Tn2) : zone_occurrences_l2 s46 s47 s48 l8 = lpK (zone_occurrences_l2_step s46 s47 s48 l8) (fun h => zone_occurrences_l2 h.1 h.2.1 h.2.2.1 h.2.2.2) := loopOpt_eq _ _
def zone_occurrences [LP] (a0_z : Tn54) : Option (Tn2 × Int) :=
 (zone_in a0_z.2.1 (-64800) 64800).bind fun r16 =>
 cond (!r16) (
 some (([] : Tn2), 1)) (
 let t20 := (Int.ofNat (List.length a0_z.2.2))
 cond (decide (t20 > 16)) (
 some (([] : Tn2), 5)) (
 let t24 := (Int.ofNat (List.length a0_z.2.2))
 (zone_occurrences_l0 0 a0_z.2.2 t24 0 a0_z.1 a0_z.2.1 a0_z.2.2).bind fun q0 =>
 sumC q0 (fun a =>
 some (([] : Tn2), a)) (fun b =>
 cond (decide (b.1 > 640)) (
 some (([] : Tn2), 5)) (
 let t47 := (Int.ofNat (List.length b.2.2.2))
 (zone_occurrences_l2 b.2.2.2 t47 0 ([] : Tn2)).bind fun q2 =>
 (slices_SortStableFunc_zone_occurrence_zone_occurrence q2).bind fun r84 =>
 some (r84, 0)))))
def zone_Transitions_l0_step (s7 s23 s24 : Int) (l6 l22 : Tn2) : Option ((Int × Int × Int × Tn2 × Tn2) ⊕ (Int ⊕ Tn2)) :=
 cond (decide (s24 < s23)) (
 cond (inR s24 (List.length l22)) (
 let t27_4 := (List.getD l22 (Int.toNat s24) (0, 0)).1
 let t27_5 := (List.getD l22 (Int.toNat s24) (0, 0)).2
 cond (t27_5 == s7) (
 let t77_4 := (w64 (s24 + 1))
 some (.inl (s7, s23, t77_4, l6, l22))) (
 let t35_2 := (w64 (t27_4 - s7))
 let t39_2 := (w64 (t27_5 - s7))
 cond (cond (decide (t39_2 ≥ 86400)) true (decide (t39_2 ≤ (-86400)))) (
 let t53_2 := (Int.ofNat (List.length l6))
 let t59_2 := (Int.ofNat (List.length l6))
 let t60_4 := (w64 (t59_2 - 1))
 cond ((inR t60_4 (List.length l6)) || !((!true) && (decide (t53_2 > 0)))) (
 let t63_2 := (List.getD l6 (Int.toNat t60_4) (0, 0)).1
 let t64_2 := (w64 (t63_2 + 604800))
 some (.inr (.inl 6))) none) (
 (zone_in t35_2 0 8589934592).bind fun r48_2 =>
 let t53_3 := (Int.ofNat (List.length l6))
 let t59_3 := (Int.ofNat (List.length l6))
 let t60_5 := (w64 (t59_3 - 1))
 cond ((inR t60_5 (List.length l6)) || !((!(!r48_2)) && (decide (t53_3 > 0)))) (
 let t63_3 := (List.getD l6 (Int.toNat t60_5) (0, 0)).1
 let t64_3 := (w64 (t63_3 + 604800))
 cond (cond (!r48_2) true (cond (decide (t53_3 > 0)) (decide (t35_2 < t64_3)) false)) (
 some (.inr (.inl 6))) (
 let t73_2 : Tn2 := [(t35_2, t27_5)]
 cond (decide (List.length l6 + List.length t73_2 ≤ sizeMax)) (
 let t74_2 : Tn2 := (l6 ++ t73_2)
 let t77_5 := (w64 (s24 + 1))
 some (.inl (t27_5, s23, t77_5, t74_2, l22))) none)) none))) none) (
 some (.inr (.inr l6)))
def zone_Transitions_l0 [LP] (s7 s23 s24 : Int) (l6 l22 : Tn2) : Option (Int ⊕ Tn2) :=
 LP.lp (fun h : Int × Int × Int × Tn2 × Tn2 => zone_Transitions_l0_step h.1 h.2.1 h.2.2.1 h.2.2.2.1 h.2.2.2.2) (s7, s23, s24, l6, l22)
theorem zone_Transitions_l0_eq (s7 s23 s24 : Int) (l6 l22 : Tn2) : zone_Transitions_l0 s7 s23 s24 l6 l22 = lpK (zone_Transitions_l0_step s7 s23 s24 l6 l22) (fun h => zone_Transitions_l0 h.1 h.2.1 h.2.2.1 h.2.2.2.1 h.2.2.2.2) := loopOpt_eq _ _
def zone_Transitions [LP] (a0_z : Tn54) : Option (Tn2 × Int) :=
 (zone_occurrences (a0_z.1, (a0_z.2.1, a0_z.2.2))).bind fun r14 =>
 cond (r14.2 != 0) (
 some (([] : Tn2), r14.2)) (
 let t23 := (Int.ofNat (List.length r14.1))
 (zone_Transitions_l0 a0_z.2.1 t23 0 ([] : Tn2) r14.1).bind fun q0 =>
 sumC q0 (fun a =>
 some (([] : Tn2), a)) (fun b =>
 some (b, 0)))
def zone_Check [LP] (a0_z : Tn54) : Option (Int) :=
 (zone_Transitions (a0_z.1, (a0_z.2.1, a0_z.2.2))).bind fun r7 =>
 some r7.2
def resolve_checkZone_c1 (a0_r : Tn40) : Option (Bool) :=
 let t5 := (Int.tmod a0_r.2.2.2.2.2.2 60)
 some (t5 != 0)
def slices_IndexFunc_api_YearRule_api_YearRule_l0_step (s0 : Tn44) (s7 s8 : Int) : Option ((Tn44 × Int × Int) ⊕ (Int ⊕ Unit)) :=
 cond (decide (s8 < s7)) (
 cond (inR s8 (List.length s0)) (
 let t14_1 := (List.getD s0 (Int.toNat s8) (0, (0, (0, (0, (0, (0, 0)))))))
 (resolve_checkZone_c1 (t14_1.1, (t14_1.2.1, (t14_1.2.2.1, (t14_1.2.2.2.1, (t14_1.2.2.2.2.1, (t14_1.2.2.2.2.2.1, t14_1.2.2.2.2.2.2))))))).bind fun r16_1 =>
 cond r16_1 (
 some (.inr (.inl s8))) (
 let t18_1 := (w64 (s8 + 1))
 some (.inl (s0, s7, t18_1)))) none) (
 some (.inr (.inr ())))
def slices_IndexFunc_api_YearRule_api_YearRule_l0 [LP] (s0 : Tn44) (s7 s8 : Int) : Option (Int ⊕ Unit) :=
 LP.lp (fun h : Tn44 × Int × Int => slices_IndexFunc_api_YearRule_api_YearRule_l0_step h.1 h.2.1 h.2.2) (s0, s7, s8)
theorem slices_IndexFunc_api_YearRule_api_YearRule_l0_eq (s0 : Tn44) (s7 s8 : Int) : slices_IndexFunc_api_YearRule_api_YearRule_l0 s0 s7 s8 = lpK (slices_IndexFunc_api_YearRule_api_YearRule_l0_step s0 s7 s8) (fun h => slices_IndexFunc_api_YearRule_api_YearRule_l0 h.1 h.2.1 h.2.2) := loopOpt_eq _ _
def slices_IndexFunc_api_YearRule_api_YearRule [LP] (a0_s : Tn44) : Option (Int) :=
 let t7 := (Int.ofNat (List.length a0_s))
 (slices_IndexFunc_api_YearRule_api_YearRule_l0 a0_s t7 0).bind fun q0 =>
 sumC q0 (fun a =>
 some a) (fun b =>
 some (-1))
def slices_ContainsFunc_api_YearRule_api_YearRule [LP] (a0_s : Tn44) : Option (Bool) :=
 (slices_IndexFunc_api_YearRule_api_YearRule a0_s).bind fun r7 =>
 some (decide (r7 ≥ 0))
def resolve_checkZone [LP] (a0_z : Tn54) : Option (Int) :=
 (zone_Check (a0_z.1, (a0_z.2.1, a0_z.2.2))).bind fun r4 =>
 let t9 := (Int.tmod a0_z.2.1 60)
 cond (cond (r4 != 0) true (t9 != 0)) (
 some 8) (
 (slices_ContainsFunc_api_YearRule_api_YearRule a0_z.2.2).bind fun r15 =>
 cond r15 (
 some 8) (
 some 0))
def resolve_named_api_Zone_l0_step [LP] (s13 : Tn56) (s14 s15 : Int) (l7 : (List (ByteArray × Bool))) : Option ((Tn56 × Int × Int × (List (ByteArray × Bool))) ⊕ (Int ⊕ Unit)) :=
 cond (decide (s15 < s14)) (
 cond (inR s15 (List.length s13)) (
 let t17_1 := (List.getD s13 (Int.toNat s15) (ByteArray.empty, (0, ([] : Tn44))))
 (resolve_Check_c1 (t17_1.1, (t17_1.2.1, t17_1.2.2))).bind fun r21_1 =>
 (resolve_name r21_1 l7).bind fun r23_1 =>
 cond (r23_1.1 != 0) (
 some (.inr (.inl r23_1.1))) (
 (resolve_checkZone (t17_1.1, (t17_1.2.1, t17_1.2.2))).bind fun r29_1 =>
 cond (r29_1 != 0) (
 some (.inr (.inl r29_1))) (
 let t33_1 := (w64 (s15 + 1))
 some (.inl (s13, s14, t33_1, r23_1.2))))) none) (
 some (.inr (.inr ())))
def resolve_named_api_Zone_l0 [LP] (s13 : Tn56) (s14 s15 : Int) (l7 : (List (ByteArray × Bool))) : Option (Int ⊕ Unit) :=
 LP.lp (fun h : Tn56 × Int × Int × (List (ByteArray × Bool)) => resolve_named_api_Zone_l0_step h.1 h.2.1 h.2.2.1 h.2.2.2) (s13, s14, s15, l7)
theorem resolve_named_api_Zone_l0_eq (s13 : Tn56) (s14 s15 : Int) (l7 : (List (ByteArray × Bool))) : resolve_named_api_Zone_l0 s13 s14 s15 l7 = lpK (resolve_named_api_Zone_l0_step s13 s14 s15 l7) (fun h => resolve_named_api_Zone_l0 h.1 h.2.1 h.2.2.1 h.2.2.2) := loopOpt_eq _ _
def resolve_named_api_Zone [LP] (a0_l : Tn56) : Option (Int) :=
 let t12 : (List (ByteArray × Bool)) := ([] : (List (ByteArray × Bool)))
 let t14 := (Int.ofNat (List.length a0_l))
 (resolve_named_api_Zone_l0 a0_l t14 0 t12).bind fun q0 =>
 sumC q0 (fun a =>
 some a) (fun b =>
 some 0)
def resolve_index (a0_i a1_n : Int) : Option (Bool) :=
 some (cond (decide (a0_i ≥ 0)) (decide (a0_i < a1_n)) false)
def week_Check_l0_step (s0 s8 : Tn2) (s9 s10 : Int) : Option ((Tn2 × Tn2 × Int × Int) ⊕ (Int ⊕ Unit)) :=
 cond (decide (s10 < s9)) (
 cond (inR s10 (List.length s8)) (
 let t13_1 := (List.getD s8 (Int.toNat s10) (0, 0))
 let t30_1 : Bool := (cond (cond (decide (t13_1.1 < 0)) true (decide (t13_1.1 ≥ t13_1.2))) true (decide (t13_1.2 > 604800)))
 cond t30_1 (
 some (.inr (.inl 1))) (
 cond (decide (s10 > 0)) (
 let t39_1 := (w64 (s10 - 1))
 cond (inR t39_1 (List.length s0)) (
 let t40_1 := (List.getD s0 (Int.toNat t39_1) (0, 0))
 cond (decide (t13_1.1 < t40_1.2)) (
 some (.inr (.inl 6))) (
 let t45_2 := (w64 (s10 + 1))
 some (.inl (s0, s8, s9, t45_2)))) none) (
 let t45_3 := (w64 (s10 + 1))
 some (.inl (s0, s8, s9, t45_3))))) none) (
 some (.inr (.inr ())))
def week_Check_l0 [LP] (s0 s8 : Tn2) (s9 s10 : Int) : Option (Int ⊕ Unit) :=
 LP.lp (fun h : Tn2 × Tn2 × Int × Int => week_Check_l0_step h.1 h.2.1 h.2.2.1 h.2.2.2) (s0, s8, s9, s10)
theorem week_Check_l0_eq (s0 s8 : Tn2) (s9 s10 : Int) : week_Check_l0 s0 s8 s9 s10 = lpK (week_Check_l0_step s0 s8 s9 s10) (fun h => week_Check_l0 h.1 h.2.1 h.2.2.1 h.2.2.2) := loopOpt_eq _ _
def week_Check [LP] (a0_l : Tn2) : Option (Int) :=
 let t6 := (Int.ofNat (List.length a0_l))
 cond (decide (t6 > 14)) (
 some 5) (
 let t9 := (Int.ofNat (List.length a0_l))
 (week_Check_l0 a0_l a0_l t9 0).bind fun q0 =>
 sumC q0 (fun a =>
 some a) (fun b =>
 some 0))
def resolve_in (a0_n a1_lo a2_hi : Int) : Option (Bool) :=
 some (cond (decide (a0_n ≥ a1_lo)) (decide (a0_n ≤ a2_hi)) false)
def resolve_hours (a0_n : Int) : Option (Bool) :=
 (resolve_in a0_n 0 604800).bind fun r4 =>
 let t7 := (Int.tmod a0_n 3600)
 some (cond r4 (t7 == 0) false)
def resolve_checkPerson [LP] (a0_c : Tn73) (a1_p : Tn46) : Option (Int) :=
 let t10 := (Int.ofNat (List.length a0_c.1))
 (resolve_index a1_p.2.1 t10).bind fun r11 =>
 cond (!r11) (
 some 3) (
 (week_Check a1_p.2.2.1).bind fun r16 =>
 cond (r16 != 0) (
 some 8) (
 (resolve_hours a1_p.2.2.2.1).bind fun r21 =>
 cond (!r21) (
 some 1) (
 (resolve_hours a1_p.2.2.2.2.1).bind fun r26 =>
 cond (!r26) (
 some 1) (
 some 0))))
def resolve_Check_c2 (a0_x : Tn20) : Option (ByteArray) :=
 some a0_x.1
def civil_year_l0_step (s0 s3 : Int) : Option ((Int × Int) ⊕ (Int)) :=
 let t8_1 := (w64 (s3 + 1))
 (civil_count t8_1).bind fun r9_1 =>
 cond (decide (r9_1 ≤ s0)) (
 let t13_1 := (w64 (s3 + 1))
 some (.inl (s0, t13_1))) (
 some (.inr s3))
def civil_year_l0 [LP] (s0 s3 : Int) : Option (Int) :=
 LP.lp (unc2 (civil_year_l0_step)) (s0, s3)
def civil_year [LP] (a0_day : Int) : Option (Int) :=
 (civil_floor a0_day 366).bind fun r5 =>
 let t6 := (w64 (1970 + r5))
 (civil_year_l0 a0_day t6).bind fun q0 =>
 some q0
def civil_DateOf_l0_step (s5 b2 b2_1 b2_2 b4 b4_1 b4_2 : Int) : Option ((Int × Int × Int × Int × Int × Int × Int) ⊕ ((Int × Int × Int × Int × Int × Int × Int))) :=
 (civil_Days b4 b4_1).bind fun r28_1 =>
 cond (decide (s5 ≥ r28_1)) (
 (civil_Days b4 b4_1).bind fun r35_1 =>
 let t36_1 := (w64 (s5 - r35_1))
 let t39_1 := (w64 (b4_1 + 1))
 some (.inl (t36_1, b2, b2_1, b2_2, b4, t39_1, b4_2))) (
 some (.inr (s5, b2, b2_1, b2_2, b4, b4_1, b4_2)))
def civil_DateOf_l0 [LP] (s5 b2 b2_1 b2_2 b4 b4_1 b4_2 : Int) : Option ((Int × Int × Int × Int × Int × Int × Int)) :=
 LP.lp (unc7 (civil_DateOf_l0_step)) (s5, b2, b2_1, b2_2, b4, b4_1, b4_2)
def civil_DateOf [LP] (a0_day : Int) : Option ((Int × (Int × Int)) × Int) :=
 (civil_count 1970).bind fun r7 =>
 cond (decide (a0_day < r7)) (
 some ((0, (0, 0)), 1)) (
 (civil_count 2241).bind fun r11 =>
 cond (decide (a0_day ≥ r11)) (
 some ((0, (0, 0)), 1)) (
 (civil_year a0_day).bind fun r16 =>
 (civil_count r16).bind fun r21 =>
 let t22 := (w64 (a0_day - r21))
 (civil_DateOf_l0 t22 0 0 0 r16 1 0).bind fun q0 =>
 let t42 := (w64 (q0.1 + 1))
 some ((q0.2.2.2.2.1, (q0.2.2.2.2.2.1, t42)), 0)))
def resolve_day [LP] (a0_n : Int) : Option (Bool) :=
 (civil_DateOf a0_n).bind fun r7 =>
 some (r7.2 == 0)
def resolve_checkCalendar_c1 [LP] (a0_n : Int) : Option (Bool) :=
 (resolve_day a0_n).bind fun r4 =>
 some (!r4)
def slices_IndexFunc_int_int_l0_step [LP] (s0 : (List Int)) (s7 s8 : Int) : Option (((List Int) × Int × Int) ⊕ (Int ⊕ Unit)) :=
 cond (decide (s8 < s7)) (
 cond (inR s8 (List.length s0)) (
 let t14_1 := (List.getD s0 (Int.toNat s8) 0)
 (resolve_checkCalendar_c1 t14_1).bind fun r16_1 =>
 cond r16_1 (
 some (.inr (.inl s8))) (
 let t18_1 := (w64 (s8 + 1))
 some (.inl (s0, s7, t18_1)))) none) (
 some (.inr (.inr ())))
def slices_IndexFunc_int_int_l0 [LP] (s0 : (List Int)) (s7 s8 : Int) : Option (Int ⊕ Unit) :=
 LP.lp (fun h : (List Int) × Int × Int => slices_IndexFunc_int_int_l0_step h.1 h.2.1 h.2.2) (s0, s7, s8)
theorem slices_IndexFunc_int_int_l0_eq (s0 : (List Int)) (s7 s8 : Int) : slices_IndexFunc_int_int_l0 s0 s7 s8 = lpK (slices_IndexFunc_int_int_l0_step s0 s7 s8) (fun h => slices_IndexFunc_int_int_l0 h.1 h.2.1 h.2.2) := loopOpt_eq _ _
def slices_IndexFunc_int_int [LP] (a0_s : (List Int)) : Option (Int) :=
 let t7 := (Int.ofNat (List.length a0_s))
 (slices_IndexFunc_int_int_l0 a0_s t7 0).bind fun q0 =>
 sumC q0 (fun a =>
 some a) (fun b =>
 some (-1))
def slices_ContainsFunc_int_int [LP] (a0_s : (List Int)) : Option (Bool) :=
 (slices_IndexFunc_int_int a0_s).bind fun r7 =>
 some (decide (r7 ≥ 0))
def resolve_checkCalendar_l1_step (s25 s26 : Int) (b3 : ByteArray) (b3_1 : Int) (b3_2 : (List Int)) : Option ((Int × Int × ByteArray × Int × (List Int)) ⊕ (Int ⊕ Unit)) :=
 cond (decide (s26 < s25)) (
 cond (decide (s26 > 0)) (
 cond (inR s26 (List.length b3_2)) (
 let t35_1 := (List.getD b3_2 (Int.toNat s26) 0)
 let t40_1 := (w64 (s26 - 1))
 cond (inR t40_1 (List.length b3_2)) (
 let t41_1 := (List.getD b3_2 (Int.toNat t40_1) 0)
 cond (decide (t35_1 ≤ t41_1)) (
 some (.inr (.inl 6))) (
 let t45_2 := (w64 (s26 + 1))
 some (.inl (s25, t45_2, b3, b3_1, b3_2)))) none) none) (
 let t45_3 := (w64 (s26 + 1))
 some (.inl (s25, t45_3, b3, b3_1, b3_2)))) (
 some (.inr (.inr ())))
def resolve_checkCalendar_l1 [LP] (s25 s26 : Int) (b3 : ByteArray) (b3_1 : Int) (b3_2 : (List Int)) : Option (Int ⊕ Unit) :=
 LP.lp (fun h : Int × Int × ByteArray × Int × (List Int) => resolve_checkCalendar_l1_step h.1 h.2.1 h.2.2.1 h.2.2.2.1 h.2.2.2.2) (s25, s26, b3, b3_1, b3_2)
theorem resolve_checkCalendar_l1_eq (s25 s26 : Int) (b3 : ByteArray) (b3_1 : Int) (b3_2 : (List Int)) : resolve_checkCalendar_l1 s25 s26 b3 b3_1 b3_2 = lpK (resolve_checkCalendar_l1_step s25 s26 b3 b3_1 b3_2) (fun h => resolve_checkCalendar_l1 h.1 h.2.1 h.2.2.1 h.2.2.2.1 h.2.2.2.2) := loopOpt_eq _ _
def resolve_checkCalendar [LP] (a0_c : Tn73) (a1_x : Tn20) : Option (Int) :=
 let t11 := (Int.ofNat (List.length a0_c.1))
 (resolve_index a1_x.2.1 t11).bind fun r12 =>
 cond (!r12) (
 some 3) (
 let t17 := (Int.ofNat (List.length a1_x.2.2))
 cond (decide (t17 > 64)) (
 some 5) (
 (slices_ContainsFunc_int_int a1_x.2.2).bind fun r22 =>
 cond r22 (
 some 1) (
 let t25 := (Int.ofNat (List.length a1_x.2.2))
 (resolve_checkCalendar_l1 t25 0 a1_x.1 a1_x.2.1 a1_x.2.2).bind fun q1 =>
 sumC q1 (fun a =>
 some a) (fun b =>
 some 0))))
def resolve_Check_c3 [LP] (a0_x : Tn20) (a1 : Tn56) (a1_1 : Tn50) (a1_2 : Tn27) (a1_3 : Tn67) : Option (Int) :=
 (resolve_checkCalendar (a1, (a1_1, (a1_2, a1_3))) (a0_x.1, (a0_x.2.1, a0_x.2.2))).bind fun r6 =>
 some r6
def resolve_named_api_Calendar_l0_step [LP] (s2 : Tn56) (s2_1 : Tn50) (s2_2 : Tn27) (s2_3 : Tn67) (s13 : Tn27) (s14 s15 : Int) (l7 : (List (ByteArray × Bool))) : Option ((Tn56 × Tn50 × Tn27 × Tn67 × Tn27 × Int × Int × (List (ByteArray × Bool))) ⊕ (Int ⊕ Unit)) :=
 cond (decide (s15 < s14)) (
 cond (inR s15 (List.length s13)) (
 let t17_1 := (List.getD s13 (Int.toNat s15) (ByteArray.empty, (0, ([] : (List Int)))))
 (resolve_Check_c2 (t17_1.1, (t17_1.2.1, t17_1.2.2))).bind fun r21_1 =>
 (resolve_name r21_1 l7).bind fun r23_1 =>
 cond (r23_1.1 != 0) (
 some (.inr (.inl r23_1.1))) (
 (resolve_Check_c3 (t17_1.1, (t17_1.2.1, t17_1.2.2)) s2 s2_1 s2_2 s2_3).bind fun r29_1 =>
 cond (r29_1 != 0) (
 some (.inr (.inl r29_1))) (
 let t33_1 := (w64 (s15 + 1))
 some (.inl (s2, s2_1, s2_2, s2_3, s13, s14, t33_1, r23_1.2))))) none) (
 some (.inr (.inr ())))
def resolve_named_api_Calendar_l0 [LP] (s2 : Tn56) (s2_1 : Tn50) (s2_2 : Tn27) (s2_3 : Tn67) (s13 : Tn27) (s14 s15 : Int) (l7 : (List (ByteArray × Bool))) : Option (Int ⊕ Unit) :=
 LP.lp (fun h : Tn56 × Tn50 × Tn27 × Tn67 × Tn27 × Int × Int × (List (ByteArray × Bool)) => resolve_named_api_Calendar_l0_step h.1 h.2.1 h.2.2.1 h.2.2.2.1 h.2.2.2.2.1 h.2.2.2.2.2.1 h.2.2.2.2.2.2.1 h.2.2.2.2.2.2.2) (s2, s2_1, s2_2, s2_3, s13, s14, s15, l7)
theorem resolve_named_api_Calendar_l0_eq (s2 : Tn56) (s2_1 : Tn50) (s2_2 : Tn27) (s2_3 : Tn67) (s13 : Tn27) (s14 s15 : Int) (l7 : (List (ByteArray × Bool))) : resolve_named_api_Calendar_l0 s2 s2_1 s2_2 s2_3 s13 s14 s15 l7 = lpK (resolve_named_api_Calendar_l0_step s2 s2_1 s2_2 s2_3 s13 s14 s15 l7) (fun h => resolve_named_api_Calendar_l0 h.1 h.2.1 h.2.2.1 h.2.2.2.1 h.2.2.2.2.1 h.2.2.2.2.2.1 h.2.2.2.2.2.2.1 h.2.2.2.2.2.2.2) := loopOpt_eq _ _
def resolve_named_api_Calendar [LP] (a0_l : Tn27) (a2_check : Tn56) (a2_check_1 : Tn50) (a2_check_2 : Tn27) (a2_check_3 : Tn67) : Option (Int) :=
 let t12 : (List (ByteArray × Bool)) := ([] : (List (ByteArray × Bool)))
 let t14 := (Int.ofNat (List.length a0_l))
 (resolve_named_api_Calendar_l0 a2_check a2_check_1 a2_check_2 a2_check_3 a0_l t14 0 t12).bind fun q0 =>
 sumC q0 (fun a =>
 some a) (fun b =>
 some 0)
def resolve_Check_c4 (a0_s : Tn66) : Option (ByteArray) :=
 some a0_s.1
def resolve_checkSchedule_c1 (a0_l : Tn61) : Option (ByteArray) :=
 some a0_l.1
def resolve_checkLayer_c1 (a0_m : Int) (a1 : Tn56) (a1_1 : Tn50) (a1_2 : Tn27) (a1_3 : Tn67) : Option (Bool) :=
 let t7 := (Int.ofNat (List.length a1_1))
 (resolve_index a0_m t7).bind fun r8 =>
 some (!r8)
def slices_IndexFunc_int_int_s2_l0_step (s0 : (List Int)) (s1 : Tn56) (s1_1 : Tn50) (s1_2 : Tn27) (s1_3 : Tn67) (s7 s8 : Int) : Option (((List Int) × Tn56 × Tn50 × Tn27 × Tn67 × Int × Int) ⊕ (Int ⊕ Unit)) :=
 cond (decide (s8 < s7)) (
 cond (inR s8 (List.length s0)) (
 let t14_1 := (List.getD s0 (Int.toNat s8) 0)
 (resolve_checkLayer_c1 t14_1 s1 s1_1 s1_2 s1_3).bind fun r16_1 =>
 cond r16_1 (
 some (.inr (.inl s8))) (
 let t18_1 := (w64 (s8 + 1))
 some (.inl (s0, s1, s1_1, s1_2, s1_3, s7, t18_1)))) none) (
 some (.inr (.inr ())))
def slices_IndexFunc_int_int_s2_l0 [LP] (s0 : (List Int)) (s1 : Tn56) (s1_1 : Tn50) (s1_2 : Tn27) (s1_3 : Tn67) (s7 s8 : Int) : Option (Int ⊕ Unit) :=
 LP.lp (fun h : (List Int) × Tn56 × Tn50 × Tn27 × Tn67 × Int × Int => slices_IndexFunc_int_int_s2_l0_step h.1 h.2.1 h.2.2.1 h.2.2.2.1 h.2.2.2.2.1 h.2.2.2.2.2.1 h.2.2.2.2.2.2) (s0, s1, s1_1, s1_2, s1_3, s7, s8)
theorem slices_IndexFunc_int_int_s2_l0_eq (s0 : (List Int)) (s1 : Tn56) (s1_1 : Tn50) (s1_2 : Tn27) (s1_3 : Tn67) (s7 s8 : Int) : slices_IndexFunc_int_int_s2_l0 s0 s1 s1_1 s1_2 s1_3 s7 s8 = lpK (slices_IndexFunc_int_int_s2_l0_step s0 s1 s1_1 s1_2 s1_3 s7 s8) (fun h => slices_IndexFunc_int_int_s2_l0 h.1 h.2.1 h.2.2.1 h.2.2.2.1 h.2.2.2.2.1 h.2.2.2.2.2.1 h.2.2.2.2.2.2) := loopOpt_eq _ _
def slices_IndexFunc_int_int_s2 [LP] (a0_s : (List Int)) (a1_f : Tn56) (a1_f_1 : Tn50) (a1_f_2 : Tn27) (a1_f_3 : Tn67) : Option (Int) :=
 let t7 := (Int.ofNat (List.length a0_s))
 (slices_IndexFunc_int_int_s2_l0 a0_s a1_f a1_f_1 a1_f_2 a1_f_3 t7 0).bind fun q0 =>
 sumC q0 (fun a =>
 some a) (fun b =>
 some (-1))
def slices_ContainsFunc_int_int_s2 [LP] (a0_s : (List Int)) (a1_f : Tn56) (a1_f_1 : Tn50) (a1_f_2 : Tn27) (a1_f_3 : Tn67) : Option (Bool) :=
 (slices_IndexFunc_int_int_s2 a0_s a1_f a1_f_1 a1_f_2 a1_f_3).bind fun r7 =>
 some (decide (r7 ≥ 0))
def resolve_checkLayer [LP] (a0_c : Tn73) (a1_l : Tn61) : Option (Int) :=
 let t10 := (Int.ofNat (List.length a0_c.1))
 (resolve_index a1_l.2.1 t10).bind fun r11 =>
 cond (!r11) (
 some 3) (
 cond (decide (a1_l.2.2.1.1 < 1)) (
 some 1) (
 (resolve_day a1_l.2.2.1.1).bind fun r22 =>
 cond (!r22) (
 some 1) (
 (resolve_in a1_l.2.2.1.2 0 86399).bind fun r29 =>
 cond (!r29) (
 some 1) (
 (resolve_in a1_l.2.2.2.1 0 2).bind fun r35 =>
 cond (!r35) (
 some 1) (
 (resolve_in a1_l.2.2.2.2.1 1 400).bind fun r41 =>
 cond (!r41) (
 some 1) (
 let t47 := (Int.ofNat (List.length a1_l.2.2.2.2.2.1))
 cond (t47 == 0) (
 some 7) (
 let t52 := (Int.ofNat (List.length a1_l.2.2.2.2.2.1))
 cond (decide (t52 > 12)) (
 some 5) (
 (slices_ContainsFunc_int_int_s2 a1_l.2.2.2.2.2.1 a0_c.1 a0_c.2.1 a0_c.2.2.1 a0_c.2.2.2).bind fun r58 =>
 cond r58 (
 some 3) (
 (week_Check a1_l.2.2.2.2.2.2.1).bind fun r62 =>
 cond (r62 != 0) (
 some 8) (
 (resolve_in a1_l.2.2.2.2.2.2.2.2 0 2).bind fun r67 =>
 cond (!r67) (
 some 1) (
 let t78 := (Int.ofNat (List.length a0_c.2.2.1))
 cond (a1_l.2.2.2.2.2.2.2.2 != 0) (
 (resolve_index a1_l.2.2.2.2.2.2.2.1 t78).bind fun r79 =>
 cond (!r79) (
 some 3) (
 cond (cond (a1_l.2.2.2.2.2.2.2.2 == 0) (a1_l.2.2.2.2.2.2.2.1 != 0) false) (
 some 1) (
 some 0))) (
 cond (cond (a1_l.2.2.2.2.2.2.2.2 == 0) (a1_l.2.2.2.2.2.2.2.1 != 0) false) (
 some 1) (
 some 0)))))))))))))
def resolve_checkSchedule_c2 [LP] (a0_l : Tn61) (a1 : Tn56) (a1_1 : Tn50) (a1_2 : Tn27) (a1_3 : Tn67) : Option (Int) :=
 (resolve_checkLayer (a1, (a1_1, (a1_2, a1_3))) (a0_l.1, (a0_l.2.1, ((a0_l.2.2.1.1, a0_l.2.2.1.2), (a0_l.2.2.2.1, (a0_l.2.2.2.2.1, (a0_l.2.2.2.2.2.1, (a0_l.2.2.2.2.2.2.1, (a0_l.2.2.2.2.2.2.2.1, a0_l.2.2.2.2.2.2.2.2))))))))).bind fun r6 =>
 some r6
def resolve_named_api_Layer_l0_step [LP] (s2 : Tn56) (s2_1 : Tn50) (s2_2 : Tn27) (s2_3 : Tn67) (s13 : Tn62) (s14 s15 : Int) (l7 : (List (ByteArray × Bool))) : Option ((Tn56 × Tn50 × Tn27 × Tn67 × Tn62 × Int × Int × (List (ByteArray × Bool))) ⊕ (Int ⊕ Unit)) :=
 cond (decide (s15 < s14)) (
 cond (inR s15 (List.length s13)) (
 let t17_1 := (List.getD s13 (Int.toNat s15) (ByteArray.empty, (0, ((0, 0), (0, (0, (([] : (List Int)), (([] : Tn2), (0, 0)))))))))
 (resolve_checkSchedule_c1 (t17_1.1, (t17_1.2.1, ((t17_1.2.2.1.1, t17_1.2.2.1.2), (t17_1.2.2.2.1, (t17_1.2.2.2.2.1, (t17_1.2.2.2.2.2.1, (t17_1.2.2.2.2.2.2.1, (t17_1.2.2.2.2.2.2.2.1, t17_1.2.2.2.2.2.2.2.2))))))))).bind fun r21_1 =>
 (resolve_name r21_1 l7).bind fun r23_1 =>
 cond (r23_1.1 != 0) (
 some (.inr (.inl r23_1.1))) (
 (resolve_checkSchedule_c2 (t17_1.1, (t17_1.2.1, ((t17_1.2.2.1.1, t17_1.2.2.1.2), (t17_1.2.2.2.1, (t17_1.2.2.2.2.1, (t17_1.2.2.2.2.2.1, (t17_1.2.2.2.2.2.2.1, (t17_1.2.2.2.2.2.2.2.1, t17_1.2.2.2.2.2.2.2.2)))))))) s2 s2_1 s2_2 s2_3).bind fun r29_1 =>
 cond (r29_1 != 0) (
 some (.inr (.inl r29_1))) (
 let t33_1 := (w64 (s15 + 1))
 some (.inl (s2, s2_1, s2_2, s2_3, s13, s14, t33_1, r23_1.2))))) none) (
 some (.inr (.inr ())))
def resolve_named_api_Layer_l0 [LP] (s2 : Tn56) (s2_1 : Tn50) (s2_2 : Tn27) (s2_3 : Tn67) (s13 : Tn62) (s14 s15 : Int) (l7 : (List (ByteArray × Bool))) : Option (Int ⊕ Unit) :=
 LP.lp (fun h : Tn56 × Tn50 × Tn27 × Tn67 × Tn62 × Int × Int × (List (ByteArray × Bool)) => resolve_named_api_Layer_l0_step h.1 h.2.1 h.2.2.1 h.2.2.2.1 h.2.2.2.2.1 h.2.2.2.2.2.1 h.2.2.2.2.2.2.1 h.2.2.2.2.2.2.2) (s2, s2_1, s2_2, s2_3, s13, s14, s15, l7)
theorem resolve_named_api_Layer_l0_eq (s2 : Tn56) (s2_1 : Tn50) (s2_2 : Tn27) (s2_3 : Tn67) (s13 : Tn62) (s14 s15 : Int) (l7 : (List (ByteArray × Bool))) : resolve_named_api_Layer_l0 s2 s2_1 s2_2 s2_3 s13 s14 s15 l7 = lpK (resolve_named_api_Layer_l0_step s2 s2_1 s2_2 s2_3 s13 s14 s15 l7) (fun h => resolve_named_api_Layer_l0 h.1 h.2.1 h.2.2.1 h.2.2.2.1 h.2.2.2.2.1 h.2.2.2.2.2.1 h.2.2.2.2.2.2.1 h.2.2.2.2.2.2.2) := loopOpt_eq _ _
def resolve_named_api_Layer [LP] (a0_l : Tn62) (a2_check : Tn56) (a2_check_1 : Tn50) (a2_check_2 : Tn27) (a2_check_3 : Tn67) : Option (Int) :=
 let t12 : (List (ByteArray × Bool)) := ([] : (List (ByteArray × Bool)))
 let t14 := (Int.ofNat (List.length a0_l))
 (resolve_named_api_Layer_l0 a2_check a2_check_1 a2_check_2 a2_check_3 a0_l t14 0 t12).bind fun q0 =>
 sumC q0 (fun a =>
 some a) (fun b =>
 some 0)
def resolve_checkEdit [LP] (a0_c : Tn73) (a1_x : Tn25) : Option (Int) :=
 let t8 := (Int.ofNat (List.length a0_c.2.1))
 (resolve_in a1_x.1 0 2).bind fun r12 =>
 cond (!r12) (
 some 1) (
 (resolve_index a1_x.2.1 t8).bind fun r18 =>
 cond (cond (!r18) (!(cond (a1_x.1 == 1) (a1_x.2.1 == (-1)) false)) false) (
 cond (cond (!r18) (!(cond (a1_x.1 == 1) (a1_x.2.1 == (-1)) false)) false) (
 some 3) (
 cond (cond (a1_x.1 != 2) (a1_x.2.2.1 != 0) false) (
 some 1) (
 cond (cond (a1_x.1 == 2) (a1_x.2.1 == a1_x.2.2.1) false) (
 some 4) (
 let t73 := (w64 (Int.tdiv a1_x.2.2.2.2 86400))
 cond (cond (decide (a1_x.2.2.2.1 < 0)) true (decide (a1_x.2.2.2.2 < 0))) (
 some 1) (
 (resolve_day t73).bind fun r74 =>
 cond (!r74) (
 some 1) (
 cond (decide (a1_x.2.2.2.1 ≥ a1_x.2.2.2.2)) (
 some 6) (
 some 0))))))) (
 cond (a1_x.1 == 2) (
 (resolve_index a1_x.2.2.1 t8).bind fun r38 =>
 cond (!r38) (
 some 3) (
 cond (cond (a1_x.1 != 2) (a1_x.2.2.1 != 0) false) (
 some 1) (
 cond (cond (a1_x.1 == 2) (a1_x.2.1 == a1_x.2.2.1) false) (
 some 4) (
 let t73_1 := (w64 (Int.tdiv a1_x.2.2.2.2 86400))
 cond (cond (decide (a1_x.2.2.2.1 < 0)) true (decide (a1_x.2.2.2.2 < 0))) (
 some 1) (
 (resolve_day t73_1).bind fun r74_1 =>
 cond (!r74_1) (
 some 1) (
 cond (decide (a1_x.2.2.2.1 ≥ a1_x.2.2.2.2)) (
 some 6) (
 some 0))))))) (
 cond (cond (a1_x.1 != 2) (a1_x.2.2.1 != 0) false) (
 some 1) (
 cond (cond (a1_x.1 == 2) (a1_x.2.1 == a1_x.2.2.1) false) (
 some 4) (
 let t73_2 := (w64 (Int.tdiv a1_x.2.2.2.2 86400))
 cond (cond (decide (a1_x.2.2.2.1 < 0)) true (decide (a1_x.2.2.2.2 < 0))) (
 some 1) (
 (resolve_day t73_2).bind fun r74_2 =>
 cond (!r74_2) (
 some 1) (
 cond (decide (a1_x.2.2.2.1 ≥ a1_x.2.2.2.2)) (
 some 6) (
 some 0))))))))
def resolve_checkSchedule_l0_step [LP] (s27 : Tn31) (s28 s29 : Int) (b2 : Tn56) (b2_1 : Tn50) (b2_2 : Tn27) (b2_3 : Tn67) : Option ((Tn31 × Int × Int × Tn56 × Tn50 × Tn27 × Tn67) ⊕ (Int ⊕ Unit)) :=
 cond (decide (s29 < s28)) (
 cond (inR s29 (List.length s27)) (
 let t31_1 := (List.getD s27 (Int.toNat s29) (0, (0, (0, (0, 0)))))
 (resolve_checkEdit (b2, (b2_1, (b2_2, b2_3))) (t31_1.1, (t31_1.2.1, (t31_1.2.2.1, (t31_1.2.2.2.1, t31_1.2.2.2.2))))).bind fun r35_1 =>
 cond (r35_1 != 0) (
 some (.inr (.inl r35_1))) (
 let t39_1 := (w64 (s29 + 1))
 some (.inl (s27, s28, t39_1, b2, b2_1, b2_2, b2_3)))) none) (
 some (.inr (.inr ())))
def resolve_checkSchedule_l0 [LP] (s27 : Tn31) (s28 s29 : Int) (b2 : Tn56) (b2_1 : Tn50) (b2_2 : Tn27) (b2_3 : Tn67) : Option (Int ⊕ Unit) :=
 LP.lp (fun h : Tn31 × Int × Int × Tn56 × Tn50 × Tn27 × Tn67 => resolve_checkSchedule_l0_step h.1 h.2.1 h.2.2.1 h.2.2.2.1 h.2.2.2.2.1 h.2.2.2.2.2.1 h.2.2.2.2.2.2) (s27, s28, s29, b2, b2_1, b2_2, b2_3)
theorem resolve_checkSchedule_l0_eq (s27 : Tn31) (s28 s29 : Int) (b2 : Tn56) (b2_1 : Tn50) (b2_2 : Tn27) (b2_3 : Tn67) : resolve_checkSchedule_l0 s27 s28 s29 b2 b2_1 b2_2 b2_3 = lpK (resolve_checkSchedule_l0_step s27 s28 s29 b2 b2_1 b2_2 b2_3) (fun h => resolve_checkSchedule_l0 h.1 h.2.1 h.2.2.1 h.2.2.2.1 h.2.2.2.2.1 h.2.2.2.2.2.1 h.2.2.2.2.2.2) := loopOpt_eq _ _
def resolve_checkSchedule [LP] (a0_c : Tn73) (a1_s : Tn66) : Option (Int) :=
 let t11 := (Int.ofNat (List.length a1_s.2.1))
 let t16 := (Int.ofNat (List.length a1_s.2.2))
 cond (cond (decide (t11 > 6)) true (decide (t16 > 48))) (
 some 5) (
 (resolve_named_api_Layer a1_s.2.1 a0_c.1 a0_c.2.1 a0_c.2.2.1 a0_c.2.2.2).bind fun r22 =>
 cond (r22 != 0) (
 some r22) (
 let t28 := (Int.ofNat (List.length a1_s.2.2))
 (resolve_checkSchedule_l0 a1_s.2.2 t28 0 a0_c.1 a0_c.2.1 a0_c.2.2.1 a0_c.2.2.2).bind fun q0 =>
 sumC q0 (fun a =>
 some a) (fun b =>
 some 0)))
def resolve_Check_c5 [LP] (a0_s : Tn66) (a1 : Tn56) (a1_1 : Tn50) (a1_2 : Tn27) (a1_3 : Tn67) : Option (Int) :=
 (resolve_checkSchedule (a1, (a1_1, (a1_2, a1_3))) (a0_s.1, (a0_s.2.1, a0_s.2.2))).bind fun r6 =>
 some r6
def resolve_named_api_Schedule_l0_step [LP] (s2 : Tn56) (s2_1 : Tn50) (s2_2 : Tn27) (s2_3 s13 : Tn67) (s14 s15 : Int) (l7 : (List (ByteArray × Bool))) : Option ((Tn56 × Tn50 × Tn27 × Tn67 × Tn67 × Int × Int × (List (ByteArray × Bool))) ⊕ (Int ⊕ Unit)) :=
 cond (decide (s15 < s14)) (
 cond (inR s15 (List.length s13)) (
 let t17_1 := (List.getD s13 (Int.toNat s15) (ByteArray.empty, (([] : Tn62), ([] : Tn31))))
 (resolve_Check_c4 (t17_1.1, (t17_1.2.1, t17_1.2.2))).bind fun r21_1 =>
 (resolve_name r21_1 l7).bind fun r23_1 =>
 cond (r23_1.1 != 0) (
 some (.inr (.inl r23_1.1))) (
 (resolve_Check_c5 (t17_1.1, (t17_1.2.1, t17_1.2.2)) s2 s2_1 s2_2 s2_3).bind fun r29_1 =>
 cond (r29_1 != 0) (
 some (.inr (.inl r29_1))) (
 let t33_1 := (w64 (s15 + 1))
 some (.inl (s2, s2_1, s2_2, s2_3, s13, s14, t33_1, r23_1.2))))) none) (
 some (.inr (.inr ())))
def resolve_named_api_Schedule_l0 [LP] (s2 : Tn56) (s2_1 : Tn50) (s2_2 : Tn27) (s2_3 s13 : Tn67) (s14 s15 : Int) (l7 : (List (ByteArray × Bool))) : Option (Int ⊕ Unit) :=
 LP.lp (fun h : Tn56 × Tn50 × Tn27 × Tn67 × Tn67 × Int × Int × (List (ByteArray × Bool)) => resolve_named_api_Schedule_l0_step h.1 h.2.1 h.2.2.1 h.2.2.2.1 h.2.2.2.2.1 h.2.2.2.2.2.1 h.2.2.2.2.2.2.1 h.2.2.2.2.2.2.2) (s2, s2_1, s2_2, s2_3, s13, s14, s15, l7)
theorem resolve_named_api_Schedule_l0_eq (s2 : Tn56) (s2_1 : Tn50) (s2_2 : Tn27) (s2_3 s13 : Tn67) (s14 s15 : Int) (l7 : (List (ByteArray × Bool))) : resolve_named_api_Schedule_l0 s2 s2_1 s2_2 s2_3 s13 s14 s15 l7 = lpK (resolve_named_api_Schedule_l0_step s2 s2_1 s2_2 s2_3 s13 s14 s15 l7) (fun h => resolve_named_api_Schedule_l0 h.1 h.2.1 h.2.2.1 h.2.2.2.1 h.2.2.2.2.1 h.2.2.2.2.2.1 h.2.2.2.2.2.2.1 h.2.2.2.2.2.2.2) := loopOpt_eq _ _
def resolve_named_api_Schedule [LP] (a0_l : Tn67) (a2_check : Tn56) (a2_check_1 : Tn50) (a2_check_2 : Tn27) (a2_check_3 : Tn67) : Option (Int) :=
 let t12 : (List (ByteArray × Bool)) := ([] : (List (ByteArray × Bool)))
 let t14 := (Int.ofNat (List.length a0_l))
 (resolve_named_api_Schedule_l0 a2_check a2_check_1 a2_check_2 a2_check_3 a0_l t14 0 t12).bind fun q0 =>
 sumC q0 (fun a =>
 some a) (fun b =>
 some 0)
def resolve_Check_l0_step [LP] (s39 : Tn50) (s40 s41 : Int) (b1 : Tn56) (b1_1 : Tn50) (b1_2 : Tn27) (b1_3 : Tn67) (l4 : (List (ByteArray × Bool))) : Option ((Tn50 × Int × Int × Tn56 × Tn50 × Tn27 × Tn67 × (List (ByteArray × Bool))) ⊕ (Int ⊕ (Tn56 × Tn50 × Tn27 × Tn67))) :=
 cond (decide (s41 < s40)) (
 cond (inR s41 (List.length s39)) (
 let t43_1 := (List.getD s39 (Int.toNat s41) (ByteArray.empty, (0, (([] : Tn2), (0, (0, false))))))
 (resolve_name t43_1.1 l4).bind fun r48_1 =>
 let t51 : Bool := (ByteArray.toList t43_1.1 == ByteArray.toList (ByteArray.mk #[110, 111, 98, 111, 100, 121]))
 cond t51 (
 cond (2 == 0) (
 (resolve_checkPerson (b1, (b1_1, (b1_2, b1_3))) (t43_1.1, (t43_1.2.1, (t43_1.2.2.1, (t43_1.2.2.2.1, (t43_1.2.2.2.2.1, t43_1.2.2.2.2.2)))))).bind fun r56_2 =>
 cond (r56_2 != 0) (
 some (.inr (.inl r56_2))) (
 let t60_4 := (w64 (s41 + 1))
 some (.inl (s39, s40, t60_4, b1, b1_1, b1_2, b1_3, r48_1.2)))) (
 cond (2 != 0) (
 some (.inr (.inl 2))) (
 let t60_5 := (w64 (s41 + 1))
 some (.inl (s39, s40, t60_5, b1, b1_1, b1_2, b1_3, r48_1.2))))) (
 cond (r48_1.1 == 0) (
 (resolve_checkPerson (b1, (b1_1, (b1_2, b1_3))) (t43_1.1, (t43_1.2.1, (t43_1.2.2.1, (t43_1.2.2.2.1, (t43_1.2.2.2.2.1, t43_1.2.2.2.2.2)))))).bind fun r56_3 =>
 cond (r56_3 != 0) (
 some (.inr (.inl r56_3))) (
 let t60_6 := (w64 (s41 + 1))
 some (.inl (s39, s40, t60_6, b1, b1_1, b1_2, b1_3, r48_1.2)))) (
 cond (r48_1.1 != 0) (
 some (.inr (.inl r48_1.1))) (
 let t60_7 := (w64 (s41 + 1))
 some (.inl (s39, s40, t60_7, b1, b1_1, b1_2, b1_3, r48_1.2)))))) none) (
 some (.inr (.inr (b1, b1_1, b1_2, b1_3))))
def resolve_Check_l0 [LP] (s39 : Tn50) (s40 s41 : Int) (b1 : Tn56) (b1_1 : Tn50) (b1_2 : Tn27) (b1_3 : Tn67) (l4 : (List (ByteArray × Bool))) : Option (Int ⊕ (Tn56 × Tn50 × Tn27 × Tn67)) :=
 LP.lp (fun h : Tn50 × Int × Int × Tn56 × Tn50 × Tn27 × Tn67 × (List (ByteArray × Bool)) => resolve_Check_l0_step h.1 h.2.1 h.2.2.1 h.2.2.2.1 h.2.2.2.2.1 h.2.2.2.2.2.1 h.2.2.2.2.2.2.1 h.2.2.2.2.2.2.2) (s39, s40, s41, b1, b1_1, b1_2, b1_3, l4)
theorem resolve_Check_l0_eq (s39 : Tn50) (s40 s41 : Int) (b1 : Tn56) (b1_1 : Tn50) (b1_2 : Tn27) (b1_3 : Tn67) (l4 : (List (ByteArray × Bool))) : resolve_Check_l0 s39 s40 s41 b1 b1_1 b1_2 b1_3 l4 = lpK (resolve_Check_l0_step s39 s40 s41 b1 b1_1 b1_2 b1_3 l4) (fun h => resolve_Check_l0 h.1 h.2.1 h.2.2.1 h.2.2.2.1 h.2.2.2.2.1 h.2.2.2.2.2.1 h.2.2.2.2.2.2.1 h.2.2.2.2.2.2.2) := loopOpt_eq _ _
def resolve_Check [LP] (a0_c : Tn73) : Option (Int) :=
 let t11 := (Int.ofNat (List.length a0_c.1))
 let t16 := (Int.ofNat (List.length a0_c.2.1))
 let t22 := (Int.ofNat (List.length a0_c.2.2.1))
 let t24 : Bool := (cond (cond (decide (t11 > 16)) true (decide (t16 > 32))) true (decide (t22 > 8)))
 let t28 := (Int.ofNat (List.length a0_c.2.2.2))
 cond (cond t24 true (decide (t28 > 12))) (
 some 5) (
 (resolve_named_api_Zone a0_c.1).bind fun r33 =>
 cond (r33 != 0) (
 some r33) (
 let t37 : (List (ByteArray × Bool)) := ([] : (List (ByteArray × Bool)))
 let t40 := (Int.ofNat (List.length a0_c.2.1))
 (resolve_Check_l0 a0_c.2.1 t40 0 a0_c.1 a0_c.2.1 a0_c.2.2.1 a0_c.2.2.2 t37).bind fun q0 =>
 sumC q0 (fun a =>
 some a) (fun b =>
 (resolve_named_api_Calendar b.2.2.1 b.1 b.2.1 b.2.2.1 b.2.2.2).bind fun r64 =>
 cond (r64 != 0) (
 some r64) (
 (resolve_named_api_Schedule b.2.2.2 b.1 b.2.1 b.2.2.1 b.2.2.2).bind fun r71 =>
 some r71))))
def stack_Index (a0_c : Tn73) (a1_schedule : Int) : Option (Bool) :=
 let t11 := (Int.ofNat (List.length a0_c.2.2.2))
 some (cond (decide (a1_schedule ≥ 0)) (decide (a1_schedule < t11)) false)
def cycle_gcd_l0_step (s0 s1 : Int) : Option ((Int × Int) ⊕ (Int)) :=
 cond (s1 != 0) (
 cond (!(s1 == 0)) (
 let t10_1 := (Int.tmod s0 s1)
 some (.inl (s1, t10_1))) none) (
 some (.inr s0))
def cycle_gcd_l0 [LP] (s0 s1 : Int) : Option (Int) :=
 LP.lp (fun h : Int × Int => cycle_gcd_l0_step h.1 h.2) (s0, s1)
theorem cycle_gcd_l0_eq (s0 s1 : Int) : cycle_gcd_l0 s0 s1 = lpK (cycle_gcd_l0_step s0 s1) (fun h => cycle_gcd_l0 h.1 h.2) := loopOpt_eq _ _
def cycle_gcd [LP] (a0_a a1_b : Int) : Option (Int) :=
 (cycle_gcd_l0 a0_a a1_b).bind fun q0 =>
 some q0
def cycle_Period_c1 [LP] (a0_n : Int) (a1_l : Tn61) : Option (Int) :=
 (cycle_Layer (a1_l.1, (a1_l.2.1, ((a1_l.2.2.1.1, a1_l.2.2.1.2), (a1_l.2.2.2.1, (a1_l.2.2.2.2.1, (a1_l.2.2.2.2.2.1, (a1_l.2.2.2.2.2.2.1, (a1_l.2.2.2.2.2.2.2.1, a1_l.2.2.2.2.2.2.2.2))))))))).bind fun r9 =>
 (cycle_gcd a0_n r9.1).bind fun r15 =>
 cond (!(r15 == 0)) (
 let t16 := (w64 (Int.tdiv r9.1 r15))
 cond ((!(a0_n == 0)) || !(!(decide (a0_n > 4294967296)))) (
 let t22 := (w64 (Int.tdiv 4294967296 a0_n))
 cond (cond (decide (a0_n > 4294967296)) true (decide (t16 > t22))) (
 some 4294967297) (
 let t27 := (w64 (a0_n * t16))
 some t27)) none) none
def cycle_fold_api_Layer_int_l0_step [LP] (s1 : Int) (s9 : Tn62) (s10 s11 : Int) : Option ((Int × Tn62 × Int × Int) ⊕ (Int)) :=
 cond (decide (s11 < s10)) (
 cond (inR s11 (List.length s9)) (
 let t13_1 := (List.getD s9 (Int.toNat s11) (ByteArray.empty, (0, ((0, 0), (0, (0, (([] : (List Int)), (([] : Tn2), (0, 0)))))))))
 (cycle_Period_c1 s1 (t13_1.1, (t13_1.2.1, ((t13_1.2.2.1.1, t13_1.2.2.1.2), (t13_1.2.2.2.1, (t13_1.2.2.2.2.1, (t13_1.2.2.2.2.2.1, (t13_1.2.2.2.2.2.2.1, (t13_1.2.2.2.2.2.2.2.1, t13_1.2.2.2.2.2.2.2.2))))))))).bind fun r18_1 =>
 let t19_1 := (w64 (s11 + 1))
 some (.inl (r18_1, s9, s10, t19_1))) none) (
 some (.inr s1))
def cycle_fold_api_Layer_int_l0 [LP] (s1 : Int) (s9 : Tn62) (s10 s11 : Int) : Option (Int) :=
 LP.lp (fun h : Int × Tn62 × Int × Int => cycle_fold_api_Layer_int_l0_step h.1 h.2.1 h.2.2.1 h.2.2.2) (s1, s9, s10, s11)
theorem cycle_fold_api_Layer_int_l0_eq (s1 : Int) (s9 : Tn62) (s10 s11 : Int) : cycle_fold_api_Layer_int_l0 s1 s9 s10 s11 = lpK (cycle_fold_api_Layer_int_l0_step s1 s9 s10 s11) (fun h => cycle_fold_api_Layer_int_l0 h.1 h.2.1 h.2.2.1 h.2.2.2) := loopOpt_eq _ _
def cycle_fold_api_Layer_int [LP] (a0_l : Tn62) (a1_r : Int) : Option (Int) :=
 let t10 := (Int.ofNat (List.length a0_l))
 (cycle_fold_api_Layer_int_l0 a1_r a0_l t10 0).bind fun q0 =>
 some q0
def cycle_Period [LP] (a0_c : Tn73) (a1_schedule : Int) : Option (Int × Int) :=
 (resolve_Check (a0_c.1, (a0_c.2.1, (a0_c.2.2.1, a0_c.2.2.2)))).bind fun r8 =>
 cond (r8 != 0) (
 some (0, 8)) (
 (stack_Index (a0_c.1, (a0_c.2.1, (a0_c.2.2.1, a0_c.2.2.2))) a1_schedule).bind fun r12 =>
 cond (!r12) (
 some (0, 3)) (
 cond (inR a1_schedule (List.length a0_c.2.2.2)) (
 let t17 := (List.getD a0_c.2.2.2 (Int.toNat a1_schedule) (ByteArray.empty, (([] : Tn62), ([] : Tn31))))
 (cycle_fold_api_Layer_int t17.2.1 604800).bind fun r20 =>
 cond (decide (r20 > 4294967296)) (
 some (0, 5)) (
 some (r20, 0))) none))
def zone_Of [LP] (a0_z : Tn54) : Option (Tn14 × Int) :=
 (zone_Transitions (a0_z.1, (a0_z.2.1, a0_z.2.2))).bind fun r8 =>
 some ((a0_z.2.1, r8.1), r8.2)
def zone_Tables_l0_step [LP] (s8 : Tn56) (s9 s10 : Int) (l3 : Tn21) : Option ((Tn56 × Int × Int × Tn21) ⊕ (Tn21)) :=
 cond (decide (s10 < s9)) (
 cond (inR s10 (List.length s8)) (
 let t12_2 := (List.getD s8 (Int.toNat s10) (ByteArray.empty, (0, ([] : Tn44))))
 (zone_Of (t12_2.1, (t12_2.2.1, t12_2.2.2))).bind fun r16_2 =>
 let t21_2 : Tn21 := [(r16_2.1.1, r16_2.1.2)]
 cond (decide (List.length l3 + List.length t21_2 ≤ sizeMax)) (
 let t22_2 : Tn21 := (l3 ++ t21_2)
 let t23_2 := (w64 (s10 + 1))
 some (.inl (s8, s9, t23_2, t22_2))) none) none) (
 some (.inr l3))
def zone_Tables_l0 [LP] (s8 : Tn56) (s9 s10 : Int) (l3 : Tn21) : Option (Tn21) :=
 LP.lp (fun h : Tn56 × Int × Int × Tn21 => zone_Tables_l0_step h.1 h.2.1 h.2.2.1 h.2.2.2) (s8, s9, s10, l3)
def zone_Tables [LP] (a0_l : Tn56) : Option (Tn21) :=
 let t9 := (Int.ofNat (List.length a0_l))
 (zone_Tables_l0 a0_l t9 0 ([] : Tn21)).bind fun q0 =>
 some q0
def duty_view [LP] (a0_c : Tn73) : Option (Tn75) :=
 (zone_Tables a0_c.1).bind fun r6 =>
 some ((a0_c.1, (a0_c.2.1, (a0_c.2.2.1, a0_c.2.2.2))), r6)
def duty_Of [LP] (a0_c : Tn73) : Option (Tn75 × Bool) :=
 (resolve_Check (a0_c.1, (a0_c.2.1, (a0_c.2.2.1, a0_c.2.2.2)))).bind fun r5 =>
 cond (r5 != 0) (
 some (((([] : Tn56), (([] : Tn50), (([] : Tn27), ([] : Tn67)))), ([] : Tn21)), false)) (
 (duty_view (a0_c.1, (a0_c.2.1, (a0_c.2.2.1, a0_c.2.2.2)))).bind fun r9 =>
 some (((r9.1.1, (r9.1.2.1, (r9.1.2.2.1, r9.1.2.2.2))), r9.2), true))
def duty_View_Table (a0_v : Tn75) (a1_i : Int) : Option (Tn14) :=
 cond (inR a1_i (List.length a0_v.2)) (
 let t8 := (List.getD a0_v.2 (Int.toNat a1_i) (0, ([] : Tn2)))
 some (t8.1, t8.2)) none
def zone_Table_Changes (a0_b : Tn14) : Option (Bool) :=
 let t5 := (Int.ofNat (List.length a0_b.2))
 some (decide (t5 > 0))
def zone_Table_Last (a0_b : Tn14) : Option (Int) :=
 let t5 := (Int.ofNat (List.length a0_b.2))
 cond (t5 == 0) (
 some 0) (
 let t11 := (Int.ofNat (List.length a0_b.2))
 let t12 := (w64 (t11 - 1))
 cond (inR t12 (List.length a0_b.2)) (
 let t13 := (List.getD a0_b.2 (Int.toNat t12) (0, 0))
 some t13.1) none)
def coverage_horizon_c1 (a0_i : Int) (a1 : Tn56) (a1_1 : Tn50) (a1_2 : Tn27) (a1_3 : Tn67) (a1_4 : Tn21) (a2 : Int) : Option (Tn56 × Tn50 × Tn27 × Tn67 × Tn21 × Int) :=
 (duty_View_Table ((a1, (a1_1, (a1_2, a1_3))), a1_4) a0_i).bind fun r7 =>
 (zone_Table_Changes (r7.1, r7.2)).bind fun r9 =>
 cond r9 (
 (zone_Table_Last (r7.1, r7.2)).bind fun r12 =>
 let t13 := (w64 (r12 + 86400))
 let t14 : Int := (if t13 > a2 then t13 else a2 : Int)
 some (a1, a1_1, a1_2, a1_3, a1_4, t14)) (
 some (a1, a1_1, a1_2, a1_3, a1_4, a2))
def recur_step (a0_l : Tn61) : Option (Int) :=
 cond (a0_l.2.2.2.1 == 2) (
 let t8 := (w64 (7 * a0_l.2.2.2.2.1))
 some t8) (
 some a0_l.2.2.2.2.1)
def zone_Table_after_c1 (a0_i a1 : Int) (a1_1 : Tn2) (a2 : Int) : Option (Bool) :=
 cond (inR a0_i (List.length a1_1)) (
 let t8 := (List.getD a1_1 (Int.toNat a0_i) (0, 0))
 some (decide (t8.1 > a2))) none
def sort_Search_l0_step (s1 : Int) (s1_1 : Tn2) (s1_2 s5 s6 : Int) : Option ((Int × Tn2 × Int × Int × Int) ⊕ (Int)) :=
 cond (decide (s5 < s6)) (
 let t14_1 := (w64 (s5 + s6))
 let t15_1 : Int := (IntKind.wrap .u64 t14_1)
 let t16_1 : Int := (Int.fdiv t15_1 2)
 let t17 := (w64 t16_1)
 (zone_Table_after_c1 t17 s1 s1_1 s1_2).bind fun r20_1 =>
 cond (!r20_1) (
 let t23_1 := (w64 (t17 + 1))
 some (.inl (s1, s1_1, s1_2, t23_1, s6))) (
 some (.inl (s1, s1_1, s1_2, s5, t17)))) (
 some (.inr s5))
def sort_Search_l0 [LP] (s1 : Int) (s1_1 : Tn2) (s1_2 s5 s6 : Int) : Option (Int) :=
 LP.lp (fun h : Int × Tn2 × Int × Int × Int => sort_Search_l0_step h.1 h.2.1 h.2.2.1 h.2.2.2.1 h.2.2.2.2) (s1, s1_1, s1_2, s5, s6)
def sort_Search [LP] (a0_n a1_f : Int) (a1_f_1 : Tn2) (a1_f_2 : Int) : Option (Int) :=
 (sort_Search_l0 a1_f a1_f_1 a1_f_2 0 a0_n).bind fun q0 =>
 some q0
def zone_Table_after [LP] (a0_b : Tn14) (a1_t : Int) : Option (Int) :=
 let t7 := (Int.ofNat (List.length a0_b.2))
 (sort_Search t7 a0_b.1 a0_b.2 a1_t).bind fun r9 =>
 some r9
def zone_Table_before (a0_b : Tn14) (a1_i : Int) : Option (Int) :=
 cond (a1_i == 0) (
 some a0_b.1) (
 let t12 := (w64 (a1_i - 1))
 cond (inR t12 (List.length a0_b.2)) (
 let t13 := (List.getD a0_b.2 (Int.toNat t12) (0, 0))
 some t13.2) none)
def zone_Table_Pieces_l0_step [LP] (s1 s2 b3 : Int) (b3_1 : Tn2) (l7 : Tn15) : Option ((Int × Int × Int × Tn2 × Tn15) ⊕ (Tn15)) :=
 cond (decide (s1 < s2)) (
 (zone_Table_after (b3, b3_1) s1).bind fun r15_2 =>
 let t20_2 := (Int.ofNat (List.length b3_1))
 cond (decide (r15_2 < t20_2)) (
 cond (inR r15_2 (List.length b3_1)) (
 let t26_2 := (List.getD b3_1 (Int.toNat r15_2) (0, 0))
 let t29_2 : Int := (if t26_2.1 < s2 then t26_2.1 else s2 : Int)
 (zone_Table_before (b3, b3_1) r15_2).bind fun r35_4 =>
 let t37_4 : Tn15 := [(s1, (t29_2, r35_4))]
 cond (decide (List.length l7 + List.length t37_4 ≤ sizeMax)) (
 let t38_4 : Tn15 := (l7 ++ t37_4)
 some (.inl (t29_2, s2, b3, b3_1, t38_4))) none) none) (
 (zone_Table_before (b3, b3_1) r15_2).bind fun r35_5 =>
 let t37_5 : Tn15 := [(s1, (s2, r35_5))]
 cond (decide (List.length l7 + List.length t37_5 ≤ sizeMax)) (
 let t38_5 : Tn15 := (l7 ++ t37_5)
 some (.inl (s2, s2, b3, b3_1, t38_5))) none)) (
 some (.inr l7))
def zone_Table_Pieces_l0 [LP] (s1 s2 b3 : Int) (b3_1 : Tn2) (l7 : Tn15) : Option (Tn15) :=
 LP.lp (fun h : Int × Int × Int × Tn2 × Tn15 => zone_Table_Pieces_l0_step h.1 h.2.1 h.2.2.1 h.2.2.2.1 h.2.2.2.2) (s1, s2, b3, b3_1, l7)
def zone_Table_Pieces [LP] (a0_b : Tn14) (a1_from a2_to : Int) : Option (Tn15) :=
 (zone_Table_Pieces_l0 a1_from a2_to a0_b.1 a0_b.2 ([] : Tn15)).bind fun q0 =>
 some q0
def zone_seconds (a0_l : (Int × Int)) : Option (Int) :=
 let t5 : Int := (if (-1048576) > a0_l.1 then (-1048576) else a0_l.1 : Int)
 let t6 : Int := (if 1048576 < t5 then 1048576 else t5 : Int)
 let t7 := (w64 (t6 * 86400))
 let t10 := (w64 (t7 + a0_l.2))
 some t10
def zone_Table_First_l0_step (s11 s12 b3 b3_1 : Int) (l10 : Tn15) : Option ((Int × Int × Int × Int × Tn15) ⊕ ((Int × Bool) ⊕ Unit)) :=
 cond (decide (s12 < s11)) (
 cond (inR s12 (List.length l10)) (
 let t15_3 := (List.getD l10 (Int.toNat s12) (0, (0, 0))).1
 let t15_4 := (List.getD l10 (Int.toNat s12) (0, (0, 0))).2.1
 let t15_5 := (List.getD l10 (Int.toNat s12) (0, (0, 0))).2.2
 (zone_seconds (b3, b3_1)).bind fun r19_1 =>
 let t22_1 := (w64 (r19_1 - t15_5))
 let t23_1 : Int := (if t22_1 > t15_3 then t22_1 else t15_3 : Int)
 cond (decide (t23_1 < t15_4)) (
 some (.inr (.inl (t23_1, true)))) (
 let t29_1 := (w64 (s12 + 1))
 some (.inl (s11, t29_1, b3, b3_1, l10)))) none) (
 some (.inr (.inr ())))
def zone_Table_First_l0 [LP] (s11 s12 b3 b3_1 : Int) (l10 : Tn15) : Option ((Int × Bool) ⊕ Unit) :=
 LP.lp (fun h : Int × Int × Int × Int × Tn15 => zone_Table_First_l0_step h.1 h.2.1 h.2.2.1 h.2.2.2.1 h.2.2.2.2) (s11, s12, b3, b3_1, l10)
def zone_Table_First [LP] (a0_b : Tn14) (a1_l : (Int × Int)) : Option (Int × Bool) :=
 (zone_Table_Pieces (a0_b.1, a0_b.2) 0 8589934593).bind fun r10 =>
 let t11 := (Int.ofNat (List.length r10))
 (zone_Table_First_l0 t11 0 a1_l.1 a1_l.2 r10).bind fun q0 =>
 sumC q0 (fun a =>
 some (a.1, a.2)) (fun b =>
 some (0, false))
def recur_HandoverOf [LP] (a0_b : Tn14) (a1_l : Tn61) (a2_k : Int) : Option (Int × Bool) :=
 cond (decide (a2_k > 8589934592)) (
 some (0, false)) (
 cond (a1_l.2.2.2.1 != 0) (
 (recur_step (a1_l.1, (a1_l.2.1, ((a1_l.2.2.1.1, a1_l.2.2.1.2), (a1_l.2.2.2.1, (a1_l.2.2.2.2.1, (a1_l.2.2.2.2.2.1, (a1_l.2.2.2.2.2.2.1, (a1_l.2.2.2.2.2.2.2.1, a1_l.2.2.2.2.2.2.2.2))))))))).bind fun r22 =>
 let t23 := (w64 (a2_k * r22))
 let t24 := (w64 (a1_l.2.2.1.1 + t23))
 (zone_Table_First (a0_b.1, a0_b.2) (t24, a1_l.2.2.1.2)).bind fun r28 =>
 some (r28.1, r28.2)) (
 (zone_Table_First (a0_b.1, a0_b.2) (a1_l.2.2.1.1, a1_l.2.2.1.2)).bind fun r34 =>
 let t40 := (w64 (3600 * a1_l.2.2.2.2.1))
 let t42 := (w64 (t40 * a2_k))
 let t43 := (w64 (r34.1 + t42))
 some (t43, (cond r34.2 (decide (t43 ≤ 8589934592)) false))))
def coverage_horizon_l0_step (s18 : Tn31) (s19 s20 : Int) (b2 : Tn56) (b2_1 : Tn50) (b2_2 : Tn27) (b2_3 : Tn67) (b2_4 : Tn21) (b3 : ByteArray) (b3_1 : Tn62) (b3_2 : Tn31) (b5 : Int) : Option ((Tn31 × Int × Int × Tn56 × Tn50 × Tn27 × Tn67 × Tn21 × ByteArray × Tn62 × Tn31 × Int) ⊕ ((Tn56 × Tn50 × Tn27 × Tn67 × Tn21 × ByteArray × Tn62 × Tn31 × Int))) :=
 cond (decide (s20 < s19)) (
 cond (inR s20 (List.length s18)) (
 let t22_1 := (List.getD s18 (Int.toNat s20) (0, (0, (0, (0, 0)))))
 let t27_1 : Int := (if t22_1.2.2.2.2 > b5 then t22_1.2.2.2.2 else b5 : Int)
 let t28_1 := (w64 (s20 + 1))
 some (.inl (s18, s19, t28_1, b2, b2_1, b2_2, b2_3, b2_4, b3, b3_1, b3_2, t27_1))) none) (
 some (.inr (b2, b2_1, b2_2, b2_3, b2_4, b3, b3_1, b3_2, b5)))
def coverage_horizon_l0 [LP] (s18 : Tn31) (s19 s20 : Int) (b2 : Tn56) (b2_1 : Tn50) (b2_2 : Tn27) (b2_3 : Tn67) (b2_4 : Tn21) (b3 : ByteArray) (b3_1 : Tn62) (b3_2 : Tn31) (b5 : Int) : Option ((Tn56 × Tn50 × Tn27 × Tn67 × Tn21 × ByteArray × Tn62 × Tn31 × Int)) :=
 LP.lp (unc12 (coverage_horizon_l0_step)) (s18, s19, s20, b2, b2_1, b2_2, b2_3, b2_4, b3, b3_1, b3_2, b5)
def coverage_horizon_l2_step [LP] (s31 : Tn62) (s32 s33 : Int) (b2 : Tn56) (b2_1 : Tn50) (b2_2 : Tn27) (b2_3 : Tn67) (b2_4 : Tn21) (b5 : Int) : Option ((Tn62 × Int × Int × Tn56 × Tn50 × Tn27 × Tn67 × Tn21 × Int) ⊕ (Int)) :=
 cond (decide (s33 < s32)) (
 cond (inR s33 (List.length s31)) (
 let t35_1 := (List.getD s31 (Int.toNat s33) (ByteArray.empty, (0, ((0, 0), (0, (0, (([] : (List Int)), (([] : Tn2), (0, 0)))))))))
 (coverage_horizon_c1 t35_1.2.1 b2 b2_1 b2_2 b2_3 b2_4 b5).bind fun r40_1 =>
 (duty_View_Table ((r40_1.1, (r40_1.2.1, (r40_1.2.2.1, r40_1.2.2.2.1))), r40_1.2.2.2.2.1) t35_1.2.1).bind fun r45_1 =>
 (recur_HandoverOf (r45_1.1, r45_1.2) (t35_1.1, (t35_1.2.1, ((t35_1.2.2.1.1, t35_1.2.2.1.2), (t35_1.2.2.2.1, (t35_1.2.2.2.2.1, (t35_1.2.2.2.2.2.1, (t35_1.2.2.2.2.2.2.1, (t35_1.2.2.2.2.2.2.2.1, t35_1.2.2.2.2.2.2.2.2)))))))) 0).bind fun r47_1 =>
 cond r47_1.2 (
 let t53_1 : Int := (if r47_1.1 > r40_1.2.2.2.2.2 then r47_1.1 else r40_1.2.2.2.2.2 : Int)
 cond (t35_1.2.2.2.2.2.2.2.2 == 0) (
 let t93_8 := (w64 (s33 + 1))
 some (.inl (s31, s32, t93_8, r40_1.1, r40_1.2.1, r40_1.2.2.1, r40_1.2.2.2.1, r40_1.2.2.2.2.1, t53_1))) (
 cond (inR t35_1.2.2.2.2.2.2.2.1 (List.length r40_1.2.2.1)) (
 let t62_2 := (List.getD r40_1.2.2.1 (Int.toNat t35_1.2.2.2.2.2.2.2.1) (ByteArray.empty, (0, ([] : (List Int)))))
 (coverage_horizon_c1 t62_2.2.1 r40_1.1 r40_1.2.1 r40_1.2.2.1 r40_1.2.2.2.1 r40_1.2.2.2.2.1 t53_1).bind fun r67_2 =>
 let t70_2 := (Int.ofNat (List.length t62_2.2.2))
 cond (decide (t70_2 > 0)) (
 (duty_View_Table ((r67_2.1, (r67_2.2.1, (r67_2.2.2.1, r67_2.2.2.2.1))), r67_2.2.2.2.2.1) t62_2.2.1).bind fun r77_2 =>
 let t81_2 := (w64 (t70_2 - 1))
 cond (inR t81_2 (List.length t62_2.2.2)) (
 let t82_2 := (List.getD t62_2.2.2 (Int.toNat t81_2) 0)
 let t84_2 := (w64 (t82_2 + 1))
 (zone_Table_First (r77_2.1, r77_2.2) (t84_2, 0)).bind fun r86_2 =>
 cond r86_2.2 (
 let t92_2 : Int := (if r86_2.1 > r67_2.2.2.2.2.2 then r86_2.1 else r67_2.2.2.2.2.2 : Int)
 let t93_9 := (w64 (s33 + 1))
 some (.inl (s31, s32, t93_9, r67_2.1, r67_2.2.1, r67_2.2.2.1, r67_2.2.2.2.1, r67_2.2.2.2.2.1, t92_2))) (
 let t93_10 := (w64 (s33 + 1))
 some (.inl (s31, s32, t93_10, r67_2.1, r67_2.2.1, r67_2.2.2.1, r67_2.2.2.2.1, r67_2.2.2.2.2.1, r67_2.2.2.2.2.2)))) none) (
 let t93_11 := (w64 (s33 + 1))
 some (.inl (s31, s32, t93_11, r67_2.1, r67_2.2.1, r67_2.2.2.1, r67_2.2.2.2.1, r67_2.2.2.2.2.1, r67_2.2.2.2.2.2)))) none)) (
 cond (t35_1.2.2.2.2.2.2.2.2 == 0) (
 let t93_12 := (w64 (s33 + 1))
 some (.inl (s31, s32, t93_12, r40_1.1, r40_1.2.1, r40_1.2.2.1, r40_1.2.2.2.1, r40_1.2.2.2.2.1, r40_1.2.2.2.2.2))) (
 cond (inR t35_1.2.2.2.2.2.2.2.1 (List.length r40_1.2.2.1)) (
 let t62_3 := (List.getD r40_1.2.2.1 (Int.toNat t35_1.2.2.2.2.2.2.2.1) (ByteArray.empty, (0, ([] : (List Int)))))
 (coverage_horizon_c1 t62_3.2.1 r40_1.1 r40_1.2.1 r40_1.2.2.1 r40_1.2.2.2.1 r40_1.2.2.2.2.1 r40_1.2.2.2.2.2).bind fun r67_3 =>
 let t70_3 := (Int.ofNat (List.length t62_3.2.2))
 cond (decide (t70_3 > 0)) (
 (duty_View_Table ((r67_3.1, (r67_3.2.1, (r67_3.2.2.1, r67_3.2.2.2.1))), r67_3.2.2.2.2.1) t62_3.2.1).bind fun r77_3 =>
 let t81_3 := (w64 (t70_3 - 1))
 cond (inR t81_3 (List.length t62_3.2.2)) (
 let t82_3 := (List.getD t62_3.2.2 (Int.toNat t81_3) 0)
 let t84_3 := (w64 (t82_3 + 1))
 (zone_Table_First (r77_3.1, r77_3.2) (t84_3, 0)).bind fun r86_3 =>
 cond r86_3.2 (
 let t92_3 : Int := (if r86_3.1 > r67_3.2.2.2.2.2 then r86_3.1 else r67_3.2.2.2.2.2 : Int)
 let t93_13 := (w64 (s33 + 1))
 some (.inl (s31, s32, t93_13, r67_3.1, r67_3.2.1, r67_3.2.2.1, r67_3.2.2.2.1, r67_3.2.2.2.2.1, t92_3))) (
 let t93_14 := (w64 (s33 + 1))
 some (.inl (s31, s32, t93_14, r67_3.1, r67_3.2.1, r67_3.2.2.1, r67_3.2.2.2.1, r67_3.2.2.2.2.1, r67_3.2.2.2.2.2)))) none) (
 let t93_15 := (w64 (s33 + 1))
 some (.inl (s31, s32, t93_15, r67_3.1, r67_3.2.1, r67_3.2.2.1, r67_3.2.2.2.1, r67_3.2.2.2.2.1, r67_3.2.2.2.2.2)))) none))) none) (
 some (.inr b5))
def coverage_horizon_l2 [LP] (s31 : Tn62) (s32 s33 : Int) (b2 : Tn56) (b2_1 : Tn50) (b2_2 : Tn27) (b2_3 : Tn67) (b2_4 : Tn21) (b5 : Int) : Option (Int) :=
 LP.lp (unc9 (coverage_horizon_l2_step)) (s31, s32, s33, b2, b2_1, b2_2, b2_3, b2_4, b5)
def coverage_horizon [LP] (a0_v : Tn75) (a1_s : Tn66) : Option (Int) :=
 let t19 := (Int.ofNat (List.length a1_s.2.2))
 (coverage_horizon_l0 a1_s.2.2 t19 0 a0_v.1.1 a0_v.1.2.1 a0_v.1.2.2.1 a0_v.1.2.2.2 a0_v.2 a1_s.1 a1_s.2.1 a1_s.2.2 0).bind fun q0 =>
 let t32 := (Int.ofNat (List.length q0.2.2.2.2.2.2.1))
 (coverage_horizon_l2 q0.2.2.2.2.2.2.1 t32 0 q0.1 q0.2.1 q0.2.2.1 q0.2.2.2.1 q0.2.2.2.2.1 q0.2.2.2.2.2.2.2.2).bind fun q2 =>
 some q2
def coverage_Horizon [LP] (a0_c : Tn73) (a1_schedule : Int) : Option (Int) :=
 (duty_Of (a0_c.1, (a0_c.2.1, (a0_c.2.2.1, a0_c.2.2.2)))).bind fun r9 =>
 cond (!r9.2) (
 some 0) (
 (stack_Index (a0_c.1, (a0_c.2.1, (a0_c.2.2.1, a0_c.2.2.2))) a1_schedule).bind fun r17 =>
 cond (!r17) (
 some 0) (
 cond (inR a1_schedule (List.length a0_c.2.2.2)) (
 let t24 := (List.getD a0_c.2.2.2 (Int.toNat a1_schedule) (ByteArray.empty, (([] : Tn62), ([] : Tn31))))
 (coverage_horizon ((r9.1.1.1, (r9.1.1.2.1, (r9.1.1.2.2.1, r9.1.1.2.2.2))), r9.1.2) (t24.1, (t24.2.1, t24.2.2))).bind fun r26 =>
 some r26) none))
def cycle_Reduce [LP] (a0_c : Tn73) (a1_schedule a2_t : Int) : Option (Int × Int) :=
 (cycle_Period (a0_c.1, (a0_c.2.1, (a0_c.2.2.1, a0_c.2.2.2))) a1_schedule).bind fun r14 =>
 cond (r14.2 != 0) (
 some (0, r14.2)) (
 cond (cond (decide (a2_t < 0)) true (decide (a2_t > 8589934592))) (
 some (0, 1)) (
 (coverage_Horizon (a0_c.1, (a0_c.2.1, (a0_c.2.2.1, a0_c.2.2.2))) a1_schedule).bind fun r28 =>
 let t32 := (w64 (r28 + r14.1))
 cond (decide (a2_t < t32)) (
 some (a2_t, 0)) (
 let t38 := (w64 (a2_t - r28))
 cond (!(r14.1 == 0)) (
 let t40 := (Int.tmod t38 r14.1)
 let t41 := (w64 (r28 + t40))
 some (t41, 0)) none)))
def slices_Backward_api_Layer_api_Layer (a0_s : Tn62) : Option (Tn62) :=
 some a0_s
def zone_Table_Offset [LP] (a0_b : Tn14) (a1_t : Int) : Option (Int) :=
 (zone_Table_after (a0_b.1, a0_b.2) a1_t).bind fun r8 =>
 (zone_Table_before (a0_b.1, a0_b.2) r8).bind fun r9 =>
 some r9
def zone_local (a0_n : Int) : Option ((Int × Int)) :=
 let t5 := (w64 (Int.tdiv a0_n 86400))
 let t7 := (Int.tmod a0_n 86400)
 cond (decide (t7 < 0)) (
 let t10 := (w64 (t5 - 1))
 let t14 := (w64 (t10 * 86400))
 let t15 := (w64 (a0_n - t14))
 some (t10, t15)) (
 let t14_1 := (w64 (t5 * 86400))
 let t15_1 := (w64 (a0_n - t14_1))
 some (t5, t15_1))
def zone_Table_Local [LP] (a0_b : Tn14) (a1_t : Int) : Option ((Int × Int)) :=
 (zone_Table_Offset (a0_b.1, a0_b.2) a1_t).bind fun r8 =>
 let t9 := (w64 (a1_t + r8))
 (zone_local t9).bind fun r10 =>
 some (r10.1, r10.2)
def recur_ShiftOf_l0_step [LP] (s2 s9 b3 : Int) (b3_1 : Tn2) (b4 : ByteArray) (b4_1 b4_2 b4_3 b4_4 b4_5 : Int) (b4_6 : (List Int)) (b4_7 : Tn2) (b4_8 b4_9 : Int) : Option ((Int × Int × Int × Tn2 × ByteArray × Int × Int × Int × Int × Int × (List Int) × Tn2 × Int × Int) ⊕ ((Int × Int × Int × Tn2 × ByteArray × Int × Int × Int × Int × Int × (List Int) × Tn2 × Int × Int))) :=
 cond (decide (s9 > 0)) (
 (recur_HandoverOf (b3, b3_1) (b4, (b4_1, ((b4_2, b4_3), (b4_4, (b4_5, (b4_6, (b4_7, (b4_8, b4_9)))))))) s9).bind fun r55_1 =>
 cond (cond r55_1.2 (decide (r55_1.1 ≤ s2)) false) (
 some (.inr (s2, s9, b3, b3_1, b4, b4_1, b4_2, b4_3, b4_4, b4_5, b4_6, b4_7, b4_8, b4_9))) (
 let t65_1 := (w64 (s9 - 1))
 some (.inl (s2, t65_1, b3, b3_1, b4, b4_1, b4_2, b4_3, b4_4, b4_5, b4_6, b4_7, b4_8, b4_9)))) (
 some (.inr (s2, s9, b3, b3_1, b4, b4_1, b4_2, b4_3, b4_4, b4_5, b4_6, b4_7, b4_8, b4_9)))
def recur_ShiftOf_l0 [LP] (s2 s9 b3 : Int) (b3_1 : Tn2) (b4 : ByteArray) (b4_1 b4_2 b4_3 b4_4 b4_5 : Int) (b4_6 : (List Int)) (b4_7 : Tn2) (b4_8 b4_9 : Int) : Option ((Int × Int × Int × Tn2 × ByteArray × Int × Int × Int × Int × Int × (List Int) × Tn2 × Int × Int)) :=
 LP.lp (fun h : Int × Int × Int × Tn2 × ByteArray × Int × Int × Int × Int × Int × (List Int) × Tn2 × Int × Int => recur_ShiftOf_l0_step h.1 h.2.1 h.2.2.1 h.2.2.2.1 h.2.2.2.2.1 h.2.2.2.2.2.1 h.2.2.2.2.2.2.1 h.2.2.2.2.2.2.2.1 h.2.2.2.2.2.2.2.2.1 h.2.2.2.2.2.2.2.2.2.1 h.2.2.2.2.2.2.2.2.2.2.1 h.2.2.2.2.2.2.2.2.2.2.2.1 h.2.2.2.2.2.2.2.2.2.2.2.2.1 h.2.2.2.2.2.2.2.2.2.2.2.2.2) (s2, s9, b3, b3_1, b4, b4_1, b4_2, b4_3, b4_4, b4_5, b4_6, b4_7, b4_8, b4_9)
def recur_ShiftOf_l2_step [LP] (s2 s9 b3 : Int) (b3_1 : Tn2) (b4 : ByteArray) (b4_1 b4_2 b4_3 b4_4 b4_5 : Int) (b4_6 : (List Int)) (b4_7 : Tn2) (b4_8 b4_9 : Int) : Option ((Int × Int × Int × Tn2 × ByteArray × Int × Int × Int × Int × Int × (List Int) × Tn2 × Int × Int) ⊕ (Int)) :=
 let t70_1 := (w64 (s9 + 1))
 (recur_HandoverOf (b3, b3_1) (b4, (b4_1, ((b4_2, b4_3), (b4_4, (b4_5, (b4_6, (b4_7, (b4_8, b4_9)))))))) t70_1).bind fun r71_1 =>
 cond (cond (!r71_1.2) true (decide (r71_1.1 > s2))) (
 some (.inr s9)) (
 let t83_1 := (w64 (s9 + 1))
 some (.inl (s2, t83_1, b3, b3_1, b4, b4_1, b4_2, b4_3, b4_4, b4_5, b4_6, b4_7, b4_8, b4_9)))
def recur_ShiftOf_l2 [LP] (s2 s9 b3 : Int) (b3_1 : Tn2) (b4 : ByteArray) (b4_1 b4_2 b4_3 b4_4 b4_5 : Int) (b4_6 : (List Int)) (b4_7 : Tn2) (b4_8 b4_9 : Int) : Option (Int) :=
 LP.lp (fun h : Int × Int × Int × Tn2 × ByteArray × Int × Int × Int × Int × Int × (List Int) × Tn2 × Int × Int => recur_ShiftOf_l2_step h.1 h.2.1 h.2.2.1 h.2.2.2.1 h.2.2.2.2.1 h.2.2.2.2.2.1 h.2.2.2.2.2.2.1 h.2.2.2.2.2.2.2.1 h.2.2.2.2.2.2.2.2.1 h.2.2.2.2.2.2.2.2.2.1 h.2.2.2.2.2.2.2.2.2.2.1 h.2.2.2.2.2.2.2.2.2.2.2.1 h.2.2.2.2.2.2.2.2.2.2.2.2.1 h.2.2.2.2.2.2.2.2.2.2.2.2.2) (s2, s9, b3, b3_1, b4, b4_1, b4_2, b4_3, b4_4, b4_5, b4_6, b4_7, b4_8, b4_9)
def recur_ShiftOf [LP] (a0_b : Tn14) (a1_l : Tn61) (a2_t : Int) : Option (Int) :=
 (recur_HandoverOf (a0_b.1, a0_b.2) (a1_l.1, (a1_l.2.1, ((a1_l.2.2.1.1, a1_l.2.2.1.2), (a1_l.2.2.2.1, (a1_l.2.2.2.2.1, (a1_l.2.2.2.2.2.1, (a1_l.2.2.2.2.2.2.1, (a1_l.2.2.2.2.2.2.2.1, a1_l.2.2.2.2.2.2.2.2)))))))) 0).bind fun r17 =>
 cond (cond (!r17.2) true (decide (r17.1 > a2_t))) (
 some (-1)) (
 cond (a1_l.2.2.2.1 == 0) (
 let t32 := (w64 (a2_t - r17.1))
 let t35 := (w64 (3600 * a1_l.2.2.2.2.1))
 cond (!(t35 == 0)) (
 let t36 := (w64 (Int.tdiv t32 t35))
 some t36) none) (
 (zone_Table_Local (a0_b.1, a0_b.2) a2_t).bind fun r39 =>
 let t44 := (w64 (r39.1 - a1_l.2.2.1.1))
 (recur_step (a1_l.1, (a1_l.2.1, ((a1_l.2.2.1.1, a1_l.2.2.1.2), (a1_l.2.2.2.1, (a1_l.2.2.2.2.1, (a1_l.2.2.2.2.2.1, (a1_l.2.2.2.2.2.2.1, (a1_l.2.2.2.2.2.2.2.1, a1_l.2.2.2.2.2.2.2.2))))))))).bind fun r46 =>
 cond (!(r46 == 0)) (
 let t47 := (w64 (Int.tdiv t44 r46))
 let t48 : Int := (if t47 > 0 then t47 else 0 : Int)
 (recur_ShiftOf_l0 a2_t t48 a0_b.1 a0_b.2 a1_l.1 a1_l.2.1 a1_l.2.2.1.1 a1_l.2.2.1.2 a1_l.2.2.2.1 a1_l.2.2.2.2.1 a1_l.2.2.2.2.2.1 a1_l.2.2.2.2.2.2.1 a1_l.2.2.2.2.2.2.2.1 a1_l.2.2.2.2.2.2.2.2).bind fun q0 =>
 (recur_ShiftOf_l2 q0.1 q0.2.1 q0.2.2.1 q0.2.2.2.1 q0.2.2.2.2.1 q0.2.2.2.2.2.1 q0.2.2.2.2.2.2.1 q0.2.2.2.2.2.2.2.1 q0.2.2.2.2.2.2.2.2.1 q0.2.2.2.2.2.2.2.2.2.1 q0.2.2.2.2.2.2.2.2.2.2.1 q0.2.2.2.2.2.2.2.2.2.2.2.1 q0.2.2.2.2.2.2.2.2.2.2.2.2.1 q0.2.2.2.2.2.2.2.2.2.2.2.2.2).bind fun q2 =>
 some q2) none))
def week_SecondOf (a0_l : (Int × Int)) : Option (Int) :=
 (civil_Weekday a0_l.1).bind fun r5 =>
 let t6 := (w64 (r5 * 86400))
 let t9 := (w64 (t6 + a0_l.2))
 some t9
def week_Has_l0_step (s1 : Int) (s7 : Tn2) (s8 s9 : Int) : Option ((Int × Tn2 × Int × Int) ⊕ (Bool ⊕ Unit)) :=
 cond (decide (s9 < s8)) (
 cond (inR s9 (List.length s7)) (
 let t11_1 := (List.getD s7 (Int.toNat s9) (0, 0))
 cond (cond (decide (t11_1.1 ≤ s1)) (decide (s1 < t11_1.2)) false) (
 some (.inr (.inl true))) (
 let t23_1 := (w64 (s9 + 1))
 some (.inl (s1, s7, s8, t23_1)))) none) (
 some (.inr (.inr ())))
def week_Has_l0 [LP] (s1 : Int) (s7 : Tn2) (s8 s9 : Int) : Option (Bool ⊕ Unit) :=
 LP.lp (fun h : Int × Tn2 × Int × Int => week_Has_l0_step h.1 h.2.1 h.2.2.1 h.2.2.2) (s1, s7, s8, s9)
def week_Has [LP] (a0_l : Tn2) (a1_s : Int) : Option (Bool) :=
 let t8 := (Int.ofNat (List.length a0_l))
 (week_Has_l0 a1_s a0_l t8 0).bind fun q0 =>
 sumC q0 (fun a =>
 some a) (fun b =>
 some false)
def cmp_isNaN_int (a0_x : Int) : Option (Bool) :=
 some (a0_x != a0_x)
def cmp_Less_int (a0_x a1_y : Int) : Option (Bool) :=
 (cmp_isNaN_int a0_x).bind fun r6 =>
 cond r6 (
 (cmp_isNaN_int a1_y).bind fun r9 =>
 some (cond (!r9) true (decide (a0_x < a1_y)))) (
 some (decide (a0_x < a1_y)))
def slices_isNaN_int (a0_x : Int) : Option (Bool) :=
 some (a0_x != a0_x)
def slices_BinarySearch_int_int_l0_step (s0 : (List Int)) (s1 s6 s7 s8 : Int) : Option (((List Int) × Int × Int × Int × Int) ⊕ (((List Int) × Int × Int × Int))) :=
 cond (decide (s7 < s8)) (
 let t18_1 := (w64 (s7 + s8))
 let t19_1 : Int := (IntKind.wrap .u64 t18_1)
 let t20_1 : Int := (Int.fdiv t19_1 2)
 let t21 := (w64 t20_1)
 cond (inR t21 (List.length s0)) (
 let t24_1 := (List.getD s0 (Int.toNat t21) 0)
 (cmp_Less_int t24_1 s1).bind fun r27_1 =>
 cond r27_1 (
 let t29_1 := (w64 (t21 + 1))
 some (.inl (s0, s1, s6, t29_1, s8))) (
 some (.inl (s0, s1, s6, s7, t21)))) none) (
 some (.inr (s0, s1, s6, s7)))
def slices_BinarySearch_int_int_l0 [LP] (s0 : (List Int)) (s1 s6 s7 s8 : Int) : Option (((List Int) × Int × Int × Int)) :=
 LP.lp (fun h : (List Int) × Int × Int × Int × Int => slices_BinarySearch_int_int_l0_step h.1 h.2.1 h.2.2.1 h.2.2.2.1 h.2.2.2.2) (s0, s1, s6, s7, s8)
def slices_BinarySearch_int_int [LP] (a0_x : (List Int)) (a1_target : Int) : Option (Int × Bool) :=
 let t11 := (Int.ofNat (List.length a0_x))
 (slices_BinarySearch_int_int_l0 a0_x a1_target t11 0 t11).bind fun q0 =>
 cond ((inR q0.2.2.2 (List.length q0.1)) || !(decide (q0.2.2.2 < q0.2.2.1))) (
 let t38 := (List.getD q0.1 (Int.toNat q0.2.2.2) 0)
 cond ((inR q0.2.2.2 (List.length q0.1)) || !((decide (q0.2.2.2 < q0.2.2.1)) && (!(t38 == q0.2.1)))) (
 let t45 := (List.getD q0.1 (Int.toNat q0.2.2.2) 0)
 cond (decide (q0.2.2.2 < q0.2.2.1)) (
 cond (t38 == q0.2.1) (
 some (q0.2.2.2, true)) (
 (slices_isNaN_int t45).bind fun r47 =>
 cond r47 (
 (slices_isNaN_int q0.2.1).bind fun r50 =>
 some (q0.2.2.2, r50)) (
 some (q0.2.2.2, false)))) (
 cond ((t38 == q0.2.1) || !false) (
 some (q0.2.2.2, false)) none)) none) none
def duty_View_On [LP] (a0_v : Tn75) (a1_l : Tn61) (a2_t : Int) : Option (Int × Bool) :=
 cond (cond (decide (a2_t < 0)) true (decide (a2_t > 8589934592))) (
 some (0, false)) (
 cond (inR a1_l.2.1 (List.length a0_v.2)) (
 let t23 := (List.getD a0_v.2 (Int.toNat a1_l.2.1) (0, ([] : Tn2)))
 (recur_ShiftOf (t23.1, t23.2) (a1_l.1, (a1_l.2.1, ((a1_l.2.2.1.1, a1_l.2.2.1.2), (a1_l.2.2.2.1, (a1_l.2.2.2.2.1, (a1_l.2.2.2.2.2.1, (a1_l.2.2.2.2.2.2.1, (a1_l.2.2.2.2.2.2.2.1, a1_l.2.2.2.2.2.2.2.2)))))))) a2_t).bind fun r28 =>
 cond (decide (r28 < 0)) (
 some (0, false)) (
 let t34 := (Int.ofNat (List.length a1_l.2.2.2.2.2.2.1))
 cond (decide (t34 > 0)) (
 (zone_Table_Local (t23.1, t23.2) a2_t).bind fun r41 =>
 (week_SecondOf (r41.1, r41.2)).bind fun r42 =>
 (week_Has a1_l.2.2.2.2.2.2.1 r42).bind fun r43 =>
 cond (!r43) (
 some (0, false)) (
 cond (a1_l.2.2.2.2.2.2.2.2 == 0) (
 some (r28, true)) (
 cond (inR a1_l.2.2.2.2.2.2.2.1 (List.length a0_v.1.2.2.1)) (
 let t56 := (List.getD a0_v.1.2.2.1 (Int.toNat a1_l.2.2.2.2.2.2.2.1) (ByteArray.empty, (0, ([] : (List Int)))))
 cond (inR t56.2.1 (List.length a0_v.2)) (
 let t65 := (List.getD a0_v.2 (Int.toNat t56.2.1) (0, ([] : Tn2)))
 (zone_Table_Local (t65.1, t65.2) a2_t).bind fun r68 =>
 (slices_BinarySearch_int_int t56.2.2 r68.1).bind fun r70 =>
 some (r28, (r70.2 == (a1_l.2.2.2.2.2.2.2.2 == 2)))) none) none))) (
 cond (a1_l.2.2.2.2.2.2.2.2 == 0) (
 some (r28, true)) (
 cond (inR a1_l.2.2.2.2.2.2.2.1 (List.length a0_v.1.2.2.1)) (
 let t56_1 := (List.getD a0_v.1.2.2.1 (Int.toNat a1_l.2.2.2.2.2.2.2.1) (ByteArray.empty, (0, ([] : (List Int)))))
 cond (inR t56_1.2.1 (List.length a0_v.2)) (
 let t65_1 := (List.getD a0_v.2 (Int.toNat t56_1.2.1) (0, ([] : Tn2)))
 (zone_Table_Local (t65_1.1, t65_1.2) a2_t).bind fun r68_1 =>
 (slices_BinarySearch_int_int t56_1.2.2 r68_1.1).bind fun r70_1 =>
 some (r28, (r70_1.2 == (a1_l.2.2.2.2.2.2.2.2 == 2)))) none) none)))) none)
def duty_View_Person [LP] (a0_v : Tn75) (a1_l : Tn61) (a2_t : Int) : Option (Int) :=
 (duty_View_On ((a0_v.1.1, (a0_v.1.2.1, (a0_v.1.2.2.1, a0_v.1.2.2.2))), a0_v.2) (a1_l.1, (a1_l.2.1, ((a1_l.2.2.1.1, a1_l.2.2.1.2), (a1_l.2.2.2.1, (a1_l.2.2.2.2.1, (a1_l.2.2.2.2.2.1, (a1_l.2.2.2.2.2.2.1, (a1_l.2.2.2.2.2.2.2.1, a1_l.2.2.2.2.2.2.2.2)))))))) a2_t).bind fun r13 =>
 cond (!r13.2) (
 some (-1)) (
 let t23 := (Int.ofNat (List.length a1_l.2.2.2.2.2.1))
 cond (!(t23 == 0)) (
 let t24 := (Int.tmod r13.1 t23)
 cond (inR t24 (List.length a1_l.2.2.2.2.2.1)) (
 let t25 := (List.getD a1_l.2.2.2.2.2.1 (Int.toNat t24) 0)
 some t25) none) none)
def stack_Away_c1 (a0_x : Tn25) (a1 a2 : Int) : Option (Bool) :=
 let t19 : Bool := (cond (cond (a0_x.1 == 0) (a0_x.2.1 == a1) false) (decide (a0_x.2.2.2.1 ≤ a2)) false)
 some (cond t19 (decide (a2 < a0_x.2.2.2.2)) false)
def slices_IndexFunc_api_Edit_api_Edit_l0_step (s0 : Tn31) (s1 s1_1 s7 s8 : Int) : Option ((Tn31 × Int × Int × Int × Int) ⊕ (Int ⊕ Unit)) :=
 cond (decide (s8 < s7)) (
 cond (inR s8 (List.length s0)) (
 let t14_1 := (List.getD s0 (Int.toNat s8) (0, (0, (0, (0, 0)))))
 (stack_Away_c1 (t14_1.1, (t14_1.2.1, (t14_1.2.2.1, (t14_1.2.2.2.1, t14_1.2.2.2.2)))) s1 s1_1).bind fun r16_1 =>
 cond r16_1 (
 some (.inr (.inl s8))) (
 let t18_1 := (w64 (s8 + 1))
 some (.inl (s0, s1, s1_1, s7, t18_1)))) none) (
 some (.inr (.inr ())))
def slices_IndexFunc_api_Edit_api_Edit_l0 [LP] (s0 : Tn31) (s1 s1_1 s7 s8 : Int) : Option (Int ⊕ Unit) :=
 LP.lp (fun h : Tn31 × Int × Int × Int × Int => slices_IndexFunc_api_Edit_api_Edit_l0_step h.1 h.2.1 h.2.2.1 h.2.2.2.1 h.2.2.2.2) (s0, s1, s1_1, s7, s8)
def slices_IndexFunc_api_Edit_api_Edit [LP] (a0_s : Tn31) (a1_f a1_f_1 : Int) : Option (Int) :=
 let t7 := (Int.ofNat (List.length a0_s))
 (slices_IndexFunc_api_Edit_api_Edit_l0 a0_s a1_f a1_f_1 t7 0).bind fun q0 =>
 sumC q0 (fun a =>
 some a) (fun b =>
 some (-1))
def slices_ContainsFunc_api_Edit_api_Edit [LP] (a0_s : Tn31) (a1_f a1_f_1 : Int) : Option (Bool) :=
 (slices_IndexFunc_api_Edit_api_Edit a0_s a1_f a1_f_1).bind fun r7 =>
 some (decide (r7 ≥ 0))
def stack_Away [LP] (a0_s : Tn66) (a1_person a2_t : Int) : Option (Bool) :=
 (slices_ContainsFunc_api_Edit_api_Edit a0_s.2.2 a1_person a2_t).bind fun r10 =>
 some r10
def stack_LayerOf_l0_step [LP] (n0 : Int) (s13 : Tn62) (b3 : Tn56) (b3_1 : Tn50) (b3_2 : Tn27) (b3_3 : Tn67) (b3_4 : Tn21) (b4 : ByteArray) (b4_1 : Tn62) (b4_2 : Tn31) (b5 b6 b7 : Int) : Option ((Int × Tn62 × Tn56 × Tn50 × Tn27 × Tn67 × Tn21 × ByteArray × Tn62 × Tn31 × Int × Int × Int) ⊕ ((Int × Int) ⊕ (Int × Int))) :=
 cond (decide (n0 ≤ 0)) (
 some (.inr (.inl (b6, b7)))) (
 cond (decide (n0 ≤ Int.ofNat (List.length s13))) (
 let t14_1 : Int := (n0 - 1)
 let t15_1 := (List.getD s13 (Int.toNat t14_1) (ByteArray.empty, (0, ((0, 0), (0, (0, (([] : (List Int)), (([] : Tn2), (0, 0)))))))))
 (duty_View_Person ((b3, (b3_1, (b3_2, b3_3))), b3_4) (t15_1.1, (t15_1.2.1, ((t15_1.2.2.1.1, t15_1.2.2.1.2), (t15_1.2.2.2.1, (t15_1.2.2.2.2.1, (t15_1.2.2.2.2.2.1, (t15_1.2.2.2.2.2.2.1, (t15_1.2.2.2.2.2.2.2.1, t15_1.2.2.2.2.2.2.2.2)))))))) b5).bind fun r19_1 =>
 cond (decide (r19_1 < 0)) (
 some (.inl ((n0 - 1), s13, b3, b3_1, b3_2, b3_3, b3_4, b4, b4_1, b4_2, b5, b6, b7))) (
 (stack_Away (b4, (b4_1, b4_2)) r19_1 b5).bind fun r25_1 =>
 cond (!r25_1) (
 some (.inr (.inr (t14_1, r19_1)))) (
 some (.inl ((n0 - 1), s13, b3, b3_1, b3_2, b3_3, b3_4, b4, b4_1, b4_2, b5, b6, b7))))) none)
def stack_LayerOf_l0 [LP] (n0 : Int) (s13 : Tn62) (b3 : Tn56) (b3_1 : Tn50) (b3_2 : Tn27) (b3_3 : Tn67) (b3_4 : Tn21) (b4 : ByteArray) (b4_1 : Tn62) (b4_2 : Tn31) (b5 b6 b7 : Int) : Option ((Int × Int) ⊕ (Int × Int)) :=
 LP.lp (fun h : Int × Tn62 × Tn56 × Tn50 × Tn27 × Tn67 × Tn21 × ByteArray × Tn62 × Tn31 × Int × Int × Int => stack_LayerOf_l0_step h.1 h.2.1 h.2.2.1 h.2.2.2.1 h.2.2.2.2.1 h.2.2.2.2.2.1 h.2.2.2.2.2.2.1 h.2.2.2.2.2.2.2.1 h.2.2.2.2.2.2.2.2.1 h.2.2.2.2.2.2.2.2.2.1 h.2.2.2.2.2.2.2.2.2.2.1 h.2.2.2.2.2.2.2.2.2.2.2.1 h.2.2.2.2.2.2.2.2.2.2.2.2) (n0, s13, b3, b3_1, b3_2, b3_3, b3_4, b4, b4_1, b4_2, b5, b6, b7)
def stack_LayerOf [LP] (a0_v : Tn75) (a1_s : Tn66) (a2_t : Int) : Option (Int × Int) :=
 (slices_Backward_api_Layer_api_Layer a1_s.2.1).bind fun r13 =>
 (stack_LayerOf_l0 (Int.ofNat (List.length r13)) r13 a0_v.1.1 a0_v.1.2.1 a0_v.1.2.2.1 a0_v.1.2.2.2 a0_v.2 a1_s.1 a1_s.2.1 a1_s.2.2 a2_t 0 0).bind fun q0 =>
 sumC q0 (fun a =>
 some ((-1), (-1))) (fun b =>
 some (b.1, b.2))
def edit_active (a0_x : Tn25) (a1_t : Int) : Option (Bool) :=
 some (cond (decide (a0_x.2.2.2.1 ≤ a1_t)) (decide (a1_t < a0_x.2.2.2.2)) false)
def edit_Fold_l0_step (s1 s2 : Int) (s9 : Tn31) (s10 s11 : Int) : Option ((Int × Int × Tn31 × Int × Int) ⊕ (Int)) :=
 cond (decide (s11 < s10)) (
 cond (inR s11 (List.length s9)) (
 let t13_1 := (List.getD s9 (Int.toNat s11) (0, (0, (0, (0, 0)))))
 (edit_active (t13_1.1, (t13_1.2.1, (t13_1.2.2.1, (t13_1.2.2.2.1, t13_1.2.2.2.2)))) s2).bind fun r18_1 =>
 cond (cond (!r18_1) true (t13_1.1 == 0)) (
 let t49_6 := (w64 (s11 + 1))
 some (.inl (s1, s2, s9, s10, t49_6))) (
 cond (t13_1.1 == 1) (
 let t49_7 := (w64 (s11 + 1))
 some (.inl (t13_1.2.1, s2, s9, s10, t49_7))) (
 cond (t13_1.1 != 2) (
 let t49_8 := (w64 (s11 + 1))
 some (.inl (s1, s2, s9, s10, t49_8))) (
 cond (s1 == t13_1.2.1) (
 let t49_9 := (w64 (s11 + 1))
 some (.inl (t13_1.2.2.1, s2, s9, s10, t49_9))) (
 cond (s1 == t13_1.2.2.1) (
 let t49_10 := (w64 (s11 + 1))
 some (.inl (t13_1.2.1, s2, s9, s10, t49_10))) (
 let t49_11 := (w64 (s11 + 1))
 some (.inl (s1, s2, s9, s10, t49_11)))))))) none) (
 some (.inr s1))
def edit_Fold_l0 [LP] (s1 s2 : Int) (s9 : Tn31) (s10 s11 : Int) : Option (Int) :=
 LP.lp (unc5 (edit_Fold_l0_step)) (s1, s2, s9, s10, s11)
def edit_Fold [LP] (a0_l : Tn31) (a1_person a2_t : Int) : Option (Int) :=
 let t10 := (Int.ofNat (List.length a0_l))
 (edit_Fold_l0 a1_person a2_t a0_l t10 0).bind fun q0 =>
 some q0
def edit_WhoOf [LP] (a0_v : Tn75) (a1_s : Tn66) (a2_t : Int) : Option (Int) :=
 cond (cond (decide (a2_t < 0)) true (decide (a2_t > 8589934592))) (
 some (-1)) (
 (stack_LayerOf ((a0_v.1.1, (a0_v.1.2.1, (a0_v.1.2.2.1, a0_v.1.2.2.2))), a0_v.2) (a1_s.1, (a1_s.2.1, a1_s.2.2)) a2_t).bind fun r19 =>
 (edit_Fold a1_s.2.2 r19.2 a2_t).bind fun r26 =>
 some r26)
def edit_Who [LP] (a0_c : Tn73) (a1_schedule a2_t : Int) : Option (Int) :=
 (duty_Of (a0_c.1, (a0_c.2.1, (a0_c.2.2.1, a0_c.2.2.2)))).bind fun r11 =>
 cond (!r11.2) (
 some (-1)) (
 (stack_Index (a0_c.1, (a0_c.2.1, (a0_c.2.2.1, a0_c.2.2.2))) a1_schedule).bind fun r19 =>
 cond (!r19) (
 some (-1)) (
 cond (inR a1_schedule (List.length a0_c.2.2.2)) (
 let t26 := (List.getD a0_c.2.2.2 (Int.toNat a1_schedule) (ByteArray.empty, (([] : Tn62), ([] : Tn31))))
 (edit_WhoOf ((r11.1.1.1, (r11.1.1.2.1, (r11.1.1.2.2.1, r11.1.1.2.2.2))), r11.1.2) (t26.1, (t26.2.1, t26.2.2)) a2_t).bind fun r29 =>
 some r29) none))
def roster_Who [LP] (a0_c : Tn73) (a1_schedule a2_at : Int) : Option (Int) :=
 (edit_Who (a0_c.1, (a0_c.2.1, (a0_c.2.2.1, a0_c.2.2.2))) a1_schedule a2_at).bind fun r10 =>
 some r10
def cycle_Far [LP] (a0_c : Tn73) (a1_schedule a2_t : Int) : Option (Int × Int) :=
 (cycle_Reduce (a0_c.1, (a0_c.2.1, (a0_c.2.2.1, a0_c.2.2.2))) a1_schedule a2_t).bind fun r13 =>
 cond (r13.2 != 0) (
 some (0, r13.2)) (
 (roster_Who (a0_c.1, (a0_c.2.1, (a0_c.2.2.1, a0_c.2.2.2))) a1_schedule r13.1).bind fun r22 =>
 some (r22, 0))
def law16_sane [LP]  : Option (Bool) :=
 let t11 : (List Int) := [0, 1, 2]
 (cycle_Layer (ByteArray.empty, (0, ((0, 0), (2, (1, (t11, (([] : Tn2), (0, 0))))))))).bind fun r13 =>
 let t17 : Tn56 := [((ByteArray.mk #[122]), (0, ([] : Tn44)))]
 let t20 : Tn50 := [((ByteArray.mk #[97]), (0, (([] : Tn2), (0, (0, false))))), ((ByteArray.mk #[98]), (0, (([] : Tn2), (0, (0, false)))))]
 let t23 : (List Int) := [0, 1, 0, 1, 1]
 let t26 : (List Int) := [0, 0, 0, 1, 1, 0, 1]
 let t28 : Tn62 := [((ByteArray.mk #[120]), (0, ((4, 0), (1, (1, (t23, (([] : Tn2), (0, 0)))))))), ((ByteArray.mk #[121]), (0, ((4, 0), (1, (3, (t26, (([] : Tn2), (0, 0))))))))]
 let t30 : Tn67 := [((ByteArray.mk #[115]), (t28, ([] : Tn31)))]
 (cycle_Period (t17, (t20, (([] : Tn27), t30))) 0).bind fun r34 =>
 let t40 := (w64 (r34.1 * 9))
 let t41 := (w64 (345600 + t40))
 let t42 := (w64 (t41 + 5))
 (cycle_Reduce (t17, (t20, (([] : Tn27), t30))) 0 t42).bind fun r43 =>
 let t49 := (w64 (r34.1 * 9))
 let t50 := (w64 (345600 + t49))
 let t51 := (w64 (t50 + 5))
 (cycle_Far (t17, (t20, (([] : Tn27), t30))) 0 t51).bind fun r52 =>
 let t68 : Bool := (cond (cond (cond (r13.2 == 0) (r34.2 == 0) false) (r43.2 == 0) false) (r52.2 == 0) false)
 let t80 : Bool := (cond (cond (cond t68 (r13.1 == 1814400) false) (r34.1 == 9072000) false) (r43.1 == 345605) false)
 some (cond t80 (r52.1 == 0) false)
def made_Roll (a0_l : (List Int)) : Option ((List Int) × Int) :=
 some (a0_l, 0)
def made_Dice_Next (a0_d : (List Int)) (a0_d_1 a1_n : Int) : Option (Int × (List Int) × Int) :=
 let t14 := (Int.ofNat (List.length a0_d))
 cond (decide (a0_d_1 ≥ t14)) (
 some (0, a0_d, a0_d_1)) (
 cond (decide (a1_n < 1)) (
 some (0, a0_d, a0_d_1)) (
 cond (inR a0_d_1 (List.length a0_d)) (
 let t28 := (List.getD a0_d (Int.toNat a0_d_1) 0)
 cond (!(a1_n == 0)) (
 let t31 := (Int.tmod t28 a1_n)
 let t36 := (w64 (a0_d_1 + 1))
 cond (decide (t31 < 0)) (
 let t43 := (w64 (t31 + a1_n))
 some (t43, a0_d, t36)) (
 some (t31, a0_d, t36))) none) none))
def made_Dice_Pick (a0_d : (List Int)) (a0_d_1 : Int) (a1_l : (List Int)) : Option (Int × (List Int) × Int) :=
 let t8 := (Int.ofNat (List.length a1_l))
 (made_Dice_Next a0_d a0_d_1 t8).bind fun r9 =>
 cond (inR r9.1 (List.length a1_l)) (
 let t10 := (List.getD a1_l (Int.toNat r9.1) 0)
 some (t10, r9.2.1, r9.2.2)) none
def made_Dice_Zone (a0_d : (List Int)) (a0_d_1 : Int) (a1_name : ByteArray) : Option (Tn54 × (List Int) × Int) :=
 let t10 : (List Int) := [0, 4, (-20), 22, 48, (-47)]
 (made_Dice_Pick a0_d a0_d_1 t10).bind fun r11 =>
 (made_Dice_Next r11.2.1 r11.2.2 2).bind fun r13 =>
 (made_Dice_Next r13.2.1 r13.2.2 3).bind fun r15 =>
 let t16 := (w64 (r13.1 * r15.1))
 let t17 := (w64 (r11.1 + t16))
 let t18 := (w64 (900 * t17))
 (made_Dice_Next r15.2.1 r15.2.2 2).bind fun r21 =>
 let t22 := (w64 (2025 + r21.1))
 (made_Dice_Next r21.2.1 r21.2.2 4).bind fun r24 =>
 cond (r24.1 == 1) (
 let t30 := (w64 (t18 + 3600))
 let t36 : Tn44 := [(2025, (t22, (3, (5, (6, (7200, t30)))))), (2025, (t22, (10, (5, (6, (10800, t18))))))]
 some ((a1_name, (t18, t36)), r24.2.1, r24.2.2)) (
 cond (r24.1 == 2) (
 (made_Dice_Next r24.2.1 r24.2.2 4).bind fun r42 =>
 let t43 := (w64 (1 + r42.1))
 (made_Dice_Next r42.2.1 r42.2.2 7).bind fun r45 =>
 (made_Dice_Next r45.2.1 r45.2.2 24).bind fun r47 =>
 let t48 := (w64 (3600 * r47.1))
 (made_Dice_Next r47.2.1 r47.2.2 8).bind fun r52 =>
 let t53 := (w64 (1 + r52.1))
 let t54 := (w64 (1800 * t53))
 let t55 := (w64 (t18 + t54))
 (made_Dice_Next r52.2.1 r52.2.2 2).bind fun r59 =>
 let t60 := (w64 (2 + r59.1))
 let t62 : (List Int) := [2, 3, 5]
 (made_Dice_Pick r59.2.1 r59.2.2 t62).bind fun r63 =>
 (made_Dice_Next r63.2.1 r63.2.2 7).bind fun r65 =>
 (made_Dice_Next r65.2.1 r65.2.2 24).bind fun r67 =>
 let t68 := (w64 (3600 * r67.1))
 let t72 : Tn44 := [(2025, (t22, (1, (t43, (r45.1, (t48, t55)))))), (2025, (t22, (t60, (r63.1, (r65.1, (t68, t18))))))]
 some ((a1_name, (t18, t72)), r67.2.1, r67.2.2)) (
 cond (r24.1 == 3) (
 let t79 : (List Int) := [3600, (-3600), 82800, (-82800), 43200]
 (made_Dice_Pick r24.2.1 r24.2.2 t79).bind fun r80 =>
 let t81 := (w64 (t18 + r80.1))
 cond (cond (decide (t81 > 64800)) true (decide (t81 < (-64800)))) (
 (made_Dice_Next r80.2.1 r80.2.2 7).bind fun r89 =>
 (made_Dice_Next r89.2.1 r89.2.2 48).bind fun r91 =>
 let t92 := (w64 (1800 * r91.1))
 let t95 : Tn44 := [(2026, (2026, (1, (2, (r89.1, (t92, 0))))))]
 some ((a1_name, (t18, t95)), r91.2.1, r91.2.2)) (
 (made_Dice_Next r80.2.1 r80.2.2 7).bind fun r89_1 =>
 (made_Dice_Next r89_1.2.1 r89_1.2.2 48).bind fun r91_1 =>
 let t92_1 := (w64 (1800 * r91_1.1))
 let t95_1 : Tn44 := [(2026, (2026, (1, (2, (r89_1.1, (t92_1, t81))))))]
 some ((a1_name, (t18, t95_1)), r91_1.2.1, r91_1.2.2))) (
 some ((a1_name, (t18, ([] : Tn44))), r24.2.1, r24.2.2))))
def made_names  : Option ((List ByteArray)) :=
 let t1 : (List ByteArray) := [(ByteArray.mk #[97, 100, 97]), (ByteArray.mk #[98, 111, 98]), (ByteArray.mk #[99, 108, 101, 111]), (ByteArray.mk #[100, 97, 110]), (ByteArray.mk #[101, 118, 101]), (ByteArray.mk #[102, 97, 121]), (ByteArray.mk #[103, 117, 115]), (ByteArray.mk #[104, 97, 108])]
 some t1
def made_Dice_Bool (a0_d : (List Int)) (a0_d_1 a1_n : Int) : Option (Bool × (List Int) × Int) :=
 (made_Dice_Next a0_d a0_d_1 a1_n).bind fun r7 =>
 let t9 := (w64 (a1_n - 1))
 some ((r7.1 == t9), r7.2.1, r7.2.2)
def made_Dice_Windows_l0_step (s4 s5 : Int) (b0 : (List Int)) (b0_1 : Int) (l3 : Tn2) : Option ((Int × Int × (List Int) × Int × Tn2) ⊕ (((List Int) × Int × Tn2))) :=
 cond (decide (s5 > 0)) (
 (made_Dice_Next b0 b0_1 30).bind fun r16_2 =>
 let t17_2 := (w64 (3600 * r16_2.1))
 let t18_2 := (w64 (s4 + t17_2))
 (made_Dice_Next r16_2.2.1 r16_2.2.2 2).bind fun r20_2 =>
 let t21_2 := (w64 (60 * r20_2.1))
 let t22_2 := (w64 (t18_2 + t21_2))
 let t25_2 : (List Int) := [3600, 28800, 43200, 86400, 61, 1]
 (made_Dice_Pick r20_2.2.1 r20_2.2.2 t25_2).bind fun r26_2 =>
 let t27_2 := (w64 (t22_2 + r26_2.1))
 cond (decide (t27_2 > 604800)) (
 some (.inr (r26_2.2.1, r26_2.2.2, l3))) (
 let t34_2 : Tn2 := [(t22_2, t27_2)]
 cond (decide (List.length l3 + List.length t34_2 ≤ sizeMax)) (
 let t35_2 : Tn2 := (l3 ++ t34_2)
 let t13_2 := (w64 (s5 - 1))
 some (.inl (t27_2, t13_2, r26_2.2.1, r26_2.2.2, t35_2))) none)) (
 some (.inr (b0, b0_1, l3)))
def made_Dice_Windows_l0 [LP] (s4 s5 : Int) (b0 : (List Int)) (b0_1 : Int) (l3 : Tn2) : Option (((List Int) × Int × Tn2)) :=
 LP.lp (fun h : Int × Int × (List Int) × Int × Tn2 => made_Dice_Windows_l0_step h.1 h.2.1 h.2.2.1 h.2.2.2.1 h.2.2.2.2) (s4, s5, b0, b0_1, l3)
theorem made_Dice_Windows_l0_eq (s4 s5 : Int) (b0 : (List Int)) (b0_1 : Int) (l3 : Tn2) : made_Dice_Windows_l0 s4 s5 b0 b0_1 l3 = lpK (made_Dice_Windows_l0_step s4 s5 b0 b0_1 l3) (fun h => made_Dice_Windows_l0 h.1 h.2.1 h.2.2.1 h.2.2.2.1 h.2.2.2.2) := loopOpt_eq _ _
def made_Dice_Windows [LP] (a0_d : (List Int)) (a0_d_1 : Int) : Option (Tn2 × (List Int) × Int) :=
 (made_Dice_Next a0_d a0_d_1 4).bind fun r9 =>
 (made_Dice_Windows_l0 0 r9.1 r9.2.1 r9.2.2 ([] : Tn2)).bind fun q0 =>
 some (q0.2.2, q0.1, q0.2.1)
def made_Dice_Staff_l0_step (s4 : Int) (b0 : (List Int)) (b0_1 : Int) (l3c0 : Tn56) : Option ((Int × (List Int) × Int × Tn56) ⊕ (((List Int) × Int × Tn56))) :=
 cond (decide (s4 > 0)) (
 let t21_2 : (List ByteArray) := [(ByteArray.mk #[104, 101, 114, 101]), (ByteArray.mk #[116, 104, 101, 114, 101])]
 let t24_1 := (Int.ofNat (List.length l3c0))
 cond (inR t24_1 (List.length t21_2)) (
 let t26_2 := (List.getD t21_2 (Int.toNat t24_1) ByteArray.empty)
 (made_Dice_Zone b0 b0_1 t26_2).bind fun r27_2 =>
 let t28_2 : Tn56 := [(r27_2.1.1, (r27_2.1.2.1, r27_2.1.2.2))]
 cond (decide (List.length l3c0 + List.length t28_2 ≤ sizeMax)) (
 let t29_2 : Tn56 := (l3c0 ++ t28_2)
 let t17_2 := (w64 (s4 - 1))
 some (.inl (t17_2, r27_2.2.1, r27_2.2.2, t29_2))) none) none) (
 some (.inr (b0, b0_1, l3c0)))
def made_Dice_Staff_l0 [LP] (s4 : Int) (b0 : (List Int)) (b0_1 : Int) (l3c0 : Tn56) : Option (((List Int) × Int × Tn56)) :=
 LP.lp (fun h : Int × (List Int) × Int × Tn56 => made_Dice_Staff_l0_step h.1 h.2.1 h.2.2.1 h.2.2.2) (s4, b0, b0_1, l3c0)
theorem made_Dice_Staff_l0_eq (s4 : Int) (b0 : (List Int)) (b0_1 : Int) (l3c0 : Tn56) : made_Dice_Staff_l0 s4 b0 b0_1 l3c0 = lpK (made_Dice_Staff_l0_step s4 b0 b0_1 l3c0) (fun h => made_Dice_Staff_l0 h.1 h.2.1 h.2.2.1 h.2.2.2) := loopOpt_eq _ _
def made_Dice_Staff_l2_step [LP] (s5 : Int) (b0 : (List Int)) (b0_1 : Int) (l3c0 : Tn56) (l3c1 : Tn50) : Option ((Int × (List Int) × Int × Tn56 × Tn50) ⊕ (((List Int) × Int × Tn56 × Tn50))) :=
 cond (decide (s5 > 0)) (
 (made_names).bind fun r38_2 =>
 let t41_1 := (Int.ofNat (List.length l3c1))
 cond (inR t41_1 (List.length r38_2)) (
 let t43_2 := (List.getD r38_2 (Int.toNat t41_1) ByteArray.empty)
 let t47_2 := (Int.ofNat (List.length l3c0))
 (made_Dice_Next b0 b0_1 t47_2).bind fun r48_2 =>
 (made_Dice_Bool r48_2.2.1 r48_2.2.2 3).bind fun r50_2 =>
 (made_Dice_Bool r50_2.2.1 r50_2.2.2 2).bind fun r53_2 =>
 cond r53_2.1 (
 (made_Dice_Windows r53_2.2.1 r53_2.2.2).bind fun r55_2 =>
 let t58_4 : (List Int) := [0, 40, 100, 12]
 (made_Dice_Pick r55_2.2.1 r55_2.2.2 t58_4).bind fun r59_4 =>
 let t60_4 := (w64 (3600 * r59_4.1))
 let t62_4 : (List Int) := [0, 11, 24, 1]
 (made_Dice_Pick r59_4.2.1 r59_4.2.2 t62_4).bind fun r63_4 =>
 let t64_4 := (w64 (3600 * r63_4.1))
 let t70_4 : Tn50 := [(t43_2, (r48_2.1, (r55_2.1, (t60_4, (t64_4, r50_2.1)))))]
 cond (decide (List.length l3c1 + List.length t70_4 ≤ sizeMax)) (
 let t71_4 : Tn50 := (l3c1 ++ t70_4)
 let t37_4 := (w64 (s5 - 1))
 some (.inl (t37_4, r63_4.2.1, r63_4.2.2, l3c0, t71_4))) none) (
 let t58_5 : (List Int) := [0, 40, 100, 12]
 (made_Dice_Pick r53_2.2.1 r53_2.2.2 t58_5).bind fun r59_5 =>
 let t60_5 := (w64 (3600 * r59_5.1))
 let t62_5 : (List Int) := [0, 11, 24, 1]
 (made_Dice_Pick r59_5.2.1 r59_5.2.2 t62_5).bind fun r63_5 =>
 let t64_5 := (w64 (3600 * r63_5.1))
 let t70_5 : Tn50 := [(t43_2, (r48_2.1, (([] : Tn2), (t60_5, (t64_5, r50_2.1)))))]
 cond (decide (List.length l3c1 + List.length t70_5 ≤ sizeMax)) (
 let t71_5 : Tn50 := (l3c1 ++ t70_5)
 let t37_5 := (w64 (s5 - 1))
 some (.inl (t37_5, r63_5.2.1, r63_5.2.2, l3c0, t71_5))) none)) none) (
 some (.inr (b0, b0_1, l3c0, l3c1)))
def made_Dice_Staff_l2 [LP] (s5 : Int) (b0 : (List Int)) (b0_1 : Int) (l3c0 : Tn56) (l3c1 : Tn50) : Option (((List Int) × Int × Tn56 × Tn50)) :=
 LP.lp (fun h : Int × (List Int) × Int × Tn56 × Tn50 => made_Dice_Staff_l2_step h.1 h.2.1 h.2.2.1 h.2.2.2.1 h.2.2.2.2) (s5, b0, b0_1, l3c0, l3c1)
theorem made_Dice_Staff_l2_eq (s5 : Int) (b0 : (List Int)) (b0_1 : Int) (l3c0 : Tn56) (l3c1 : Tn50) : made_Dice_Staff_l2 s5 b0 b0_1 l3c0 l3c1 = lpK (made_Dice_Staff_l2_step s5 b0 b0_1 l3c0 l3c1) (fun h => made_Dice_Staff_l2 h.1 h.2.1 h.2.2.1 h.2.2.2.1 h.2.2.2.2) := loopOpt_eq _ _
def made_Dice_Staff_l6_step (s7 s9 s10 : Int) (b0 : (List Int)) (b0_1 : Int) (b8 : ByteArray) (b8_1 : Int) (l3c0 : Tn56) (l3c1 : Tn50) (l3c2 : Tn27) (l8c2 : (List Int)) : Option ((Int × Int × Int × (List Int) × Int × ByteArray × Int × Tn56 × Tn50 × Tn27 × (List Int)) ⊕ ((Int × (List Int) × Int × ByteArray × Int × Tn56 × Tn50 × Tn27 × (List Int)))) :=
 cond (decide (s9 > 0)) (
 (made_Dice_Next b0 b0_1 6).bind fun r93_5 =>
 let t94_5 := (w64 (1 + r93_5.1))
 let t95_5 := (w64 (s10 + t94_5))
 cond (decide (List.length l8c2 + List.length [t95_5] ≤ sizeMax)) (
 let t100_5 : (List Int) := (l8c2 ++ [t95_5])
 let t90_5 := (w64 (s9 - 1))
 some (.inl (s7, t90_5, t95_5, r93_5.2.1, r93_5.2.2, b8, b8_1, l3c0, l3c1, l3c2, t100_5))) none) (
 some (.inr (s7, b0, b0_1, b8, b8_1, l3c0, l3c1, l3c2, l8c2)))
def made_Dice_Staff_l6 [LP] (s7 s9 s10 : Int) (b0 : (List Int)) (b0_1 : Int) (b8 : ByteArray) (b8_1 : Int) (l3c0 : Tn56) (l3c1 : Tn50) (l3c2 : Tn27) (l8c2 : (List Int)) : Option ((Int × (List Int) × Int × ByteArray × Int × Tn56 × Tn50 × Tn27 × (List Int))) :=
 LP.lp (fun h : Int × Int × Int × (List Int) × Int × ByteArray × Int × Tn56 × Tn50 × Tn27 × (List Int) => made_Dice_Staff_l6_step h.1 h.2.1 h.2.2.1 h.2.2.2.1 h.2.2.2.2.1 h.2.2.2.2.2.1 h.2.2.2.2.2.2.1 h.2.2.2.2.2.2.2.1 h.2.2.2.2.2.2.2.2.1 h.2.2.2.2.2.2.2.2.2.1 h.2.2.2.2.2.2.2.2.2.2) (s7, s9, s10, b0, b0_1, b8, b8_1, l3c0, l3c1, l3c2, l8c2)
theorem made_Dice_Staff_l6_eq (s7 s9 s10 : Int) (b0 : (List Int)) (b0_1 : Int) (b8 : ByteArray) (b8_1 : Int) (l3c0 : Tn56) (l3c1 : Tn50) (l3c2 : Tn27) (l8c2 : (List Int)) : made_Dice_Staff_l6 s7 s9 s10 b0 b0_1 b8 b8_1 l3c0 l3c1 l3c2 l8c2 = lpK (made_Dice_Staff_l6_step s7 s9 s10 b0 b0_1 b8 b8_1 l3c0 l3c1 l3c2 l8c2) (fun h => made_Dice_Staff_l6 h.1 h.2.1 h.2.2.1 h.2.2.2.1 h.2.2.2.2.1 h.2.2.2.2.2.1 h.2.2.2.2.2.2.1 h.2.2.2.2.2.2.2.1 h.2.2.2.2.2.2.2.2.1 h.2.2.2.2.2.2.2.2.2.1 h.2.2.2.2.2.2.2.2.2.2) := loopOpt_eq _ _
def made_Dice_Staff_l4_step [LP] (s7 : Int) (b0 : (List Int)) (b0_1 : Int) (l3c0 : Tn56) (l3c1 : Tn50) (l3c2 : Tn27) : Option ((Int × (List Int) × Int × Tn56 × Tn50 × Tn27) ⊕ (((List Int) × Int × Tn56 × Tn50 × Tn27))) :=
 cond (decide (s7 > 0)) (
 let t82_2 := (Int.ofNat (List.length l3c0))
 (made_Dice_Next b0 b0_1 t82_2).bind fun r83_2 =>
 (made_Dice_Next r83_2.2.1 r83_2.2.2 4).bind fun r86_2 =>
 (made_Dice_Staff_l6 s7 r86_2.1 20454 r86_2.2.1 r86_2.2.2 (ByteArray.mk #[100, 97, 121, 115]) r83_2.1 l3c0 l3c1 l3c2 ([] : (List Int))).bind fun q6_2 =>
 let t105_2 : Tn27 := [(q6_2.2.2.2.1, (q6_2.2.2.2.2.1, q6_2.2.2.2.2.2.2.2.2))]
 cond (decide (List.length q6_2.2.2.2.2.2.2.2.1 + List.length t105_2 ≤ sizeMax)) (
 let t106_2 : Tn27 := (q6_2.2.2.2.2.2.2.2.1 ++ t105_2)
 let t78_2 := (w64 (q6_2.1 - 1))
 some (.inl (t78_2, q6_2.2.1, q6_2.2.2.1, q6_2.2.2.2.2.2.1, q6_2.2.2.2.2.2.2.1, t106_2))) none) (
 some (.inr (b0, b0_1, l3c0, l3c1, l3c2)))
def made_Dice_Staff_l4 [LP] (s7 : Int) (b0 : (List Int)) (b0_1 : Int) (l3c0 : Tn56) (l3c1 : Tn50) (l3c2 : Tn27) : Option (((List Int) × Int × Tn56 × Tn50 × Tn27)) :=
 LP.lp (fun h : Int × (List Int) × Int × Tn56 × Tn50 × Tn27 => made_Dice_Staff_l4_step h.1 h.2.1 h.2.2.1 h.2.2.2.1 h.2.2.2.2.1 h.2.2.2.2.2) (s7, b0, b0_1, l3c0, l3c1, l3c2)
theorem made_Dice_Staff_l4_eq (s7 : Int) (b0 : (List Int)) (b0_1 : Int) (l3c0 : Tn56) (l3c1 : Tn50) (l3c2 : Tn27) : made_Dice_Staff_l4 s7 b0 b0_1 l3c0 l3c1 l3c2 = lpK (made_Dice_Staff_l4_step s7 b0 b0_1 l3c0 l3c1 l3c2) (fun h => made_Dice_Staff_l4 h.1 h.2.1 h.2.2.1 h.2.2.2.1 h.2.2.2.2.1 h.2.2.2.2.2) := loopOpt_eq _ _
def made_Dice_Staff [LP] (a0_d : (List Int)) (a0_d_1 : Int) : Option (Tn73 × (List Int) × Int) :=
 (made_Dice_Next a0_d a0_d_1 2).bind fun r12 =>
 let t13 := (w64 (1 + r12.1))
 (made_Dice_Staff_l0 t13 r12.2.1 r12.2.2 ([] : Tn56)).bind fun q0 =>
 (made_Dice_Next q0.1 q0.2.1 4).bind fun r32 =>
 let t33 := (w64 (1 + r32.1))
 (made_Dice_Staff_l2 t33 r32.2.1 r32.2.2 q0.2.2 ([] : Tn50)).bind fun q2 =>
 (made_Dice_Next q2.1 q2.2.1 2).bind fun r74 =>
 (made_Dice_Staff_l4 r74.1 r74.2.1 r74.2.2 q2.2.2.1 q2.2.2.2 ([] : Tn27)).bind fun q4 =>
 some ((q4.2.2.1, (q4.2.2.2.1, (q4.2.2.2.2, ([] : Tn67)))), q4.1, q4.2.1)
def made_Dice_Layer_l0_step (s8 : Int) (b0 : (List Int)) (b0_1 : Int) (b4 : Tn56) (b4_1 : Tn50) (b4_2 : Tn27) (b4_3 : Tn67) (b6 : ByteArray) (b6_1 b6_2 b6_3 b6_4 b6_5 b6_6 b6_7 : Int) (b7 : ByteArray) (b7_1 b7_2 b7_3 b7_4 b7_5 b7_6 b7_7 : Int) (l7c6 : (List Int)) : Option ((Int × (List Int) × Int × Tn56 × Tn50 × Tn27 × Tn67 × ByteArray × Int × Int × Int × Int × Int × Int × Int × ByteArray × Int × Int × Int × Int × Int × Int × Int × (List Int)) ⊕ (((List Int) × Int × Tn56 × Tn50 × Tn27 × Tn67 × ByteArray × Int × Int × Int × Int × Int × Int × Int × ByteArray × Int × Int × Int × Int × Int × Int × Int × (List Int)))) :=
 cond (decide (s8 > 0)) (
 let t48_2 := (Int.ofNat (List.length b4_1))
 (made_Dice_Next b0 b0_1 t48_2).bind fun r49_2 =>
 cond (decide (List.length l7c6 + List.length [r49_2.1] ≤ sizeMax)) (
 let t51_2 : (List Int) := (l7c6 ++ [r49_2.1])
 let t42_2 := (w64 (s8 - 1))
 some (.inl (t42_2, r49_2.2.1, r49_2.2.2, b4, b4_1, b4_2, b4_3, b6, b6_1, b6_2, b6_3, b6_4, b6_5, b6_6, b6_7, b7, b7_1, b7_2, b7_3, b7_4, b7_5, b7_6, b7_7, t51_2))) none) (
 some (.inr (b0, b0_1, b4, b4_1, b4_2, b4_3, b6, b6_1, b6_2, b6_3, b6_4, b6_5, b6_6, b6_7, b7, b7_1, b7_2, b7_3, b7_4, b7_5, b7_6, b7_7, l7c6)))
def made_Dice_Layer_l0 [LP] (s8 : Int) (b0 : (List Int)) (b0_1 : Int) (b4 : Tn56) (b4_1 : Tn50) (b4_2 : Tn27) (b4_3 : Tn67) (b6 : ByteArray) (b6_1 b6_2 b6_3 b6_4 b6_5 b6_6 b6_7 : Int) (b7 : ByteArray) (b7_1 b7_2 b7_3 b7_4 b7_5 b7_6 b7_7 : Int) (l7c6 : (List Int)) : Option (((List Int) × Int × Tn56 × Tn50 × Tn27 × Tn67 × ByteArray × Int × Int × Int × Int × Int × Int × Int × ByteArray × Int × Int × Int × Int × Int × Int × Int × (List Int))) :=
 LP.lp (fun h : Int × (List Int) × Int × Tn56 × Tn50 × Tn27 × Tn67 × ByteArray × Int × Int × Int × Int × Int × Int × Int × ByteArray × Int × Int × Int × Int × Int × Int × Int × (List Int) => made_Dice_Layer_l0_step h.1 h.2.1 h.2.2.1 h.2.2.2.1 h.2.2.2.2.1 h.2.2.2.2.2.1 h.2.2.2.2.2.2.1 h.2.2.2.2.2.2.2.1 h.2.2.2.2.2.2.2.2.1 h.2.2.2.2.2.2.2.2.2.1 h.2.2.2.2.2.2.2.2.2.2.1 h.2.2.2.2.2.2.2.2.2.2.2.1 h.2.2.2.2.2.2.2.2.2.2.2.2.1 h.2.2.2.2.2.2.2.2.2.2.2.2.2.1 h.2.2.2.2.2.2.2.2.2.2.2.2.2.2.1 h.2.2.2.2.2.2.2.2.2.2.2.2.2.2.2.1 h.2.2.2.2.2.2.2.2.2.2.2.2.2.2.2.2.1 h.2.2.2.2.2.2.2.2.2.2.2.2.2.2.2.2.2.1 h.2.2.2.2.2.2.2.2.2.2.2.2.2.2.2.2.2.2.1 h.2.2.2.2.2.2.2.2.2.2.2.2.2.2.2.2.2.2.2.1 h.2.2.2.2.2.2.2.2.2.2.2.2.2.2.2.2.2.2.2.2.1 h.2.2.2.2.2.2.2.2.2.2.2.2.2.2.2.2.2.2.2.2.2.1 h.2.2.2.2.2.2.2.2.2.2.2.2.2.2.2.2.2.2.2.2.2.2.1 h.2.2.2.2.2.2.2.2.2.2.2.2.2.2.2.2.2.2.2.2.2.2.2) (s8, b0, b0_1, b4, b4_1, b4_2, b4_3, b6, b6_1, b6_2, b6_3, b6_4, b6_5, b6_6, b6_7, b7, b7_1, b7_2, b7_3, b7_4, b7_5, b7_6, b7_7, l7c6)
theorem made_Dice_Layer_l0_eq (s8 : Int) (b0 : (List Int)) (b0_1 : Int) (b4 : Tn56) (b4_1 : Tn50) (b4_2 : Tn27) (b4_3 : Tn67) (b6 : ByteArray) (b6_1 b6_2 b6_3 b6_4 b6_5 b6_6 b6_7 : Int) (b7 : ByteArray) (b7_1 b7_2 b7_3 b7_4 b7_5 b7_6 b7_7 : Int) (l7c6 : (List Int)) : made_Dice_Layer_l0 s8 b0 b0_1 b4 b4_1 b4_2 b4_3 b6 b6_1 b6_2 b6_3 b6_4 b6_5 b6_6 b6_7 b7 b7_1 b7_2 b7_3 b7_4 b7_5 b7_6 b7_7 l7c6 = lpK (made_Dice_Layer_l0_step s8 b0 b0_1 b4 b4_1 b4_2 b4_3 b6 b6_1 b6_2 b6_3 b6_4 b6_5 b6_6 b6_7 b7 b7_1 b7_2 b7_3 b7_4 b7_5 b7_6 b7_7 l7c6) (fun h => made_Dice_Layer_l0 h.1 h.2.1 h.2.2.1 h.2.2.2.1 h.2.2.2.2.1 h.2.2.2.2.2.1 h.2.2.2.2.2.2.1 h.2.2.2.2.2.2.2.1 h.2.2.2.2.2.2.2.2.1 h.2.2.2.2.2.2.2.2.2.1 h.2.2.2.2.2.2.2.2.2.2.1 h.2.2.2.2.2.2.2.2.2.2.2.1 h.2.2.2.2.2.2.2.2.2.2.2.2.1 h.2.2.2.2.2.2.2.2.2.2.2.2.2.1 h.2.2.2.2.2.2.2.2.2.2.2.2.2.2.1 h.2.2.2.2.2.2.2.2.2.2.2.2.2.2.2.1 h.2.2.2.2.2.2.2.2.2.2.2.2.2.2.2.2.1 h.2.2.2.2.2.2.2.2.2.2.2.2.2.2.2.2.2.1 h.2.2.2.2.2.2.2.2.2.2.2.2.2.2.2.2.2.2.1 h.2.2.2.2.2.2.2.2.2.2.2.2.2.2.2.2.2.2.2.1 h.2.2.2.2.2.2.2.2.2.2.2.2.2.2.2.2.2.2.2.2.1 h.2.2.2.2.2.2.2.2.2.2.2.2.2.2.2.2.2.2.2.2.2.1 h.2.2.2.2.2.2.2.2.2.2.2.2.2.2.2.2.2.2.2.2.2.2.1 h.2.2.2.2.2.2.2.2.2.2.2.2.2.2.2.2.2.2.2.2.2.2.2) := loopOpt_eq _ _
def made_Dice_Layer [LP] (a0_d : (List Int)) (a0_d_1 : Int) (a1_c : Tn73) (a2_name : ByteArray) : Option (Tn61 × (List Int) × Int) :=
 let t13 := (Int.ofNat (List.length a1_c.1))
 (made_Dice_Next a0_d a0_d_1 t13).bind fun r14 =>
 (made_Dice_Next r14.2.1 r14.2.2 6).bind fun r16 =>
 let t17 := (w64 (20454 + r16.1))
 let t18 := (w64 (t17 - 2))
 let t20 : (List Int) := [0, 32400, 7200, 9000, 79200, 1]
 (made_Dice_Pick r16.2.1 r16.2.2 t20).bind fun r21 =>
 (made_Dice_Next r21.2.1 r21.2.2 3).bind fun r24 =>
 (made_Dice_Next r24.2.1 r24.2.2 2).bind fun r26 =>
 let t27 := (w64 (1 + r26.1))
 cond (r24.1 == 0) (
 let t33 : (List Int) := [6, 8, 12, 24, 23, 49]
 (made_Dice_Pick r26.2.1 r26.2.2 t33).bind fun r34 =>
 (made_Dice_Next r34.2.1 r34.2.2 3).bind fun r37 =>
 let t38 := (w64 (1 + r37.1))
 (made_Dice_Layer_l0 t38 r37.2.1 r37.2.2 a1_c.1 a1_c.2.1 a1_c.2.2.1 a1_c.2.2.2 ByteArray.empty 0 0 0 0 0 0 0 a2_name r14.1 t18 r21.1 r24.1 r34.1 0 0 ([] : (List Int))).bind fun q0 =>
 (made_Dice_Bool q0.1 q0.2.1 2).bind fun r54 =>
 cond r54.1 (
 (made_Dice_Windows r54.2.1 r54.2.2).bind fun r56 =>
 (made_Dice_Bool r56.2.1 r56.2.2 4).bind fun r59 =>
 let t63 := (Int.ofNat (List.length q0.2.2.2.2.1))
 cond (cond r59.1 (decide (t63 > 0)) false) (
 let t69 := (Int.ofNat (List.length q0.2.2.2.2.1))
 (made_Dice_Next r59.2.1 r59.2.2 t69).bind fun r70 =>
 (made_Dice_Next r70.2.1 r70.2.2 2).bind fun r72 =>
 let t73 := (w64 (1 + r72.1))
 some ((q0.2.2.2.2.2.2.2.2.2.2.2.2.2.2.1, (q0.2.2.2.2.2.2.2.2.2.2.2.2.2.2.2.1, ((q0.2.2.2.2.2.2.2.2.2.2.2.2.2.2.2.2.1, q0.2.2.2.2.2.2.2.2.2.2.2.2.2.2.2.2.2.1), (q0.2.2.2.2.2.2.2.2.2.2.2.2.2.2.2.2.2.2.1, (q0.2.2.2.2.2.2.2.2.2.2.2.2.2.2.2.2.2.2.2.1, (q0.2.2.2.2.2.2.2.2.2.2.2.2.2.2.2.2.2.2.2.2.2.2, (r56.1, (r70.1, t73)))))))), r72.2.1, r72.2.2)) (
 some ((q0.2.2.2.2.2.2.2.2.2.2.2.2.2.2.1, (q0.2.2.2.2.2.2.2.2.2.2.2.2.2.2.2.1, ((q0.2.2.2.2.2.2.2.2.2.2.2.2.2.2.2.2.1, q0.2.2.2.2.2.2.2.2.2.2.2.2.2.2.2.2.2.1), (q0.2.2.2.2.2.2.2.2.2.2.2.2.2.2.2.2.2.2.1, (q0.2.2.2.2.2.2.2.2.2.2.2.2.2.2.2.2.2.2.2.1, (q0.2.2.2.2.2.2.2.2.2.2.2.2.2.2.2.2.2.2.2.2.2.2, (r56.1, (q0.2.2.2.2.2.2.2.2.2.2.2.2.2.2.2.2.2.2.2.2.1, q0.2.2.2.2.2.2.2.2.2.2.2.2.2.2.2.2.2.2.2.2.2.1)))))))), r59.2.1, r59.2.2))) (
 (made_Dice_Bool r54.2.1 r54.2.2 4).bind fun r59_1 =>
 let t63_1 := (Int.ofNat (List.length q0.2.2.2.2.1))
 cond (cond r59_1.1 (decide (t63_1 > 0)) false) (
 let t69_1 := (Int.ofNat (List.length q0.2.2.2.2.1))
 (made_Dice_Next r59_1.2.1 r59_1.2.2 t69_1).bind fun r70_1 =>
 (made_Dice_Next r70_1.2.1 r70_1.2.2 2).bind fun r72_1 =>
 let t73_1 := (w64 (1 + r72_1.1))
 some ((q0.2.2.2.2.2.2.2.2.2.2.2.2.2.2.1, (q0.2.2.2.2.2.2.2.2.2.2.2.2.2.2.2.1, ((q0.2.2.2.2.2.2.2.2.2.2.2.2.2.2.2.2.1, q0.2.2.2.2.2.2.2.2.2.2.2.2.2.2.2.2.2.1), (q0.2.2.2.2.2.2.2.2.2.2.2.2.2.2.2.2.2.2.1, (q0.2.2.2.2.2.2.2.2.2.2.2.2.2.2.2.2.2.2.2.1, (q0.2.2.2.2.2.2.2.2.2.2.2.2.2.2.2.2.2.2.2.2.2.2, (([] : Tn2), (r70_1.1, t73_1)))))))), r72_1.2.1, r72_1.2.2)) (
 some ((q0.2.2.2.2.2.2.2.2.2.2.2.2.2.2.1, (q0.2.2.2.2.2.2.2.2.2.2.2.2.2.2.2.1, ((q0.2.2.2.2.2.2.2.2.2.2.2.2.2.2.2.2.1, q0.2.2.2.2.2.2.2.2.2.2.2.2.2.2.2.2.2.1), (q0.2.2.2.2.2.2.2.2.2.2.2.2.2.2.2.2.2.2.1, (q0.2.2.2.2.2.2.2.2.2.2.2.2.2.2.2.2.2.2.2.1, (q0.2.2.2.2.2.2.2.2.2.2.2.2.2.2.2.2.2.2.2.2.2.2, (([] : Tn2), (q0.2.2.2.2.2.2.2.2.2.2.2.2.2.2.2.2.2.2.2.2.1, q0.2.2.2.2.2.2.2.2.2.2.2.2.2.2.2.2.2.2.2.2.2.1)))))))), r59_1.2.1, r59_1.2.2)))) (
 (made_Dice_Next r26.2.1 r26.2.2 3).bind fun r37_1 =>
 let t38_1 := (w64 (1 + r37_1.1))
 (made_Dice_Layer_l0 t38_1 r37_1.2.1 r37_1.2.2 a1_c.1 a1_c.2.1 a1_c.2.2.1 a1_c.2.2.2 ByteArray.empty 0 0 0 0 0 0 0 a2_name r14.1 t18 r21.1 r24.1 t27 0 0 ([] : (List Int))).bind fun q0_1 =>
 (made_Dice_Bool q0_1.1 q0_1.2.1 2).bind fun r54_1 =>
 cond r54_1.1 (
 (made_Dice_Windows r54_1.2.1 r54_1.2.2).bind fun r56_1 =>
 (made_Dice_Bool r56_1.2.1 r56_1.2.2 4).bind fun r59_2 =>
 let t63_2 := (Int.ofNat (List.length q0_1.2.2.2.2.1))
 cond (cond r59_2.1 (decide (t63_2 > 0)) false) (
 let t69_2 := (Int.ofNat (List.length q0_1.2.2.2.2.1))
 (made_Dice_Next r59_2.2.1 r59_2.2.2 t69_2).bind fun r70_2 =>
 (made_Dice_Next r70_2.2.1 r70_2.2.2 2).bind fun r72_2 =>
 let t73_2 := (w64 (1 + r72_2.1))
 some ((q0_1.2.2.2.2.2.2.2.2.2.2.2.2.2.2.1, (q0_1.2.2.2.2.2.2.2.2.2.2.2.2.2.2.2.1, ((q0_1.2.2.2.2.2.2.2.2.2.2.2.2.2.2.2.2.1, q0_1.2.2.2.2.2.2.2.2.2.2.2.2.2.2.2.2.2.1), (q0_1.2.2.2.2.2.2.2.2.2.2.2.2.2.2.2.2.2.2.1, (q0_1.2.2.2.2.2.2.2.2.2.2.2.2.2.2.2.2.2.2.2.1, (q0_1.2.2.2.2.2.2.2.2.2.2.2.2.2.2.2.2.2.2.2.2.2.2, (r56_1.1, (r70_2.1, t73_2)))))))), r72_2.2.1, r72_2.2.2)) (
 some ((q0_1.2.2.2.2.2.2.2.2.2.2.2.2.2.2.1, (q0_1.2.2.2.2.2.2.2.2.2.2.2.2.2.2.2.1, ((q0_1.2.2.2.2.2.2.2.2.2.2.2.2.2.2.2.2.1, q0_1.2.2.2.2.2.2.2.2.2.2.2.2.2.2.2.2.2.1), (q0_1.2.2.2.2.2.2.2.2.2.2.2.2.2.2.2.2.2.2.1, (q0_1.2.2.2.2.2.2.2.2.2.2.2.2.2.2.2.2.2.2.2.1, (q0_1.2.2.2.2.2.2.2.2.2.2.2.2.2.2.2.2.2.2.2.2.2.2, (r56_1.1, (q0_1.2.2.2.2.2.2.2.2.2.2.2.2.2.2.2.2.2.2.2.2.1, q0_1.2.2.2.2.2.2.2.2.2.2.2.2.2.2.2.2.2.2.2.2.2.1)))))))), r59_2.2.1, r59_2.2.2))) (
 (made_Dice_Bool r54_1.2.1 r54_1.2.2 4).bind fun r59_3 =>
 let t63_3 := (Int.ofNat (List.length q0_1.2.2.2.2.1))
 cond (cond r59_3.1 (decide (t63_3 > 0)) false) (
 let t69_3 := (Int.ofNat (List.length q0_1.2.2.2.2.1))
 (made_Dice_Next r59_3.2.1 r59_3.2.2 t69_3).bind fun r70_3 =>
 (made_Dice_Next r70_3.2.1 r70_3.2.2 2).bind fun r72_3 =>
 let t73_3 := (w64 (1 + r72_3.1))
 some ((q0_1.2.2.2.2.2.2.2.2.2.2.2.2.2.2.1, (q0_1.2.2.2.2.2.2.2.2.2.2.2.2.2.2.2.1, ((q0_1.2.2.2.2.2.2.2.2.2.2.2.2.2.2.2.2.1, q0_1.2.2.2.2.2.2.2.2.2.2.2.2.2.2.2.2.2.1), (q0_1.2.2.2.2.2.2.2.2.2.2.2.2.2.2.2.2.2.2.1, (q0_1.2.2.2.2.2.2.2.2.2.2.2.2.2.2.2.2.2.2.2.1, (q0_1.2.2.2.2.2.2.2.2.2.2.2.2.2.2.2.2.2.2.2.2.2.2, (([] : Tn2), (r70_3.1, t73_3)))))))), r72_3.2.1, r72_3.2.2)) (
 some ((q0_1.2.2.2.2.2.2.2.2.2.2.2.2.2.2.1, (q0_1.2.2.2.2.2.2.2.2.2.2.2.2.2.2.2.1, ((q0_1.2.2.2.2.2.2.2.2.2.2.2.2.2.2.2.2.1, q0_1.2.2.2.2.2.2.2.2.2.2.2.2.2.2.2.2.2.1), (q0_1.2.2.2.2.2.2.2.2.2.2.2.2.2.2.2.2.2.2.1, (q0_1.2.2.2.2.2.2.2.2.2.2.2.2.2.2.2.2.2.2.2.1, (q0_1.2.2.2.2.2.2.2.2.2.2.2.2.2.2.2.2.2.2.2.2.2.2, (([] : Tn2), (q0_1.2.2.2.2.2.2.2.2.2.2.2.2.2.2.2.2.2.2.2.2.1, q0_1.2.2.2.2.2.2.2.2.2.2.2.2.2.2.2.2.2.2.2.2.2.1)))))))), r59_3.2.1, r59_3.2.2))))
def made_Dice_Instant (a0_d : (List Int)) (a0_d_1 : Int) : Option (Int × (List Int) × Int) :=
 (made_Dice_Next a0_d a0_d_1 576).bind fun r5 =>
 let t6 := (w64 (3600 * r5.1))
 let t7 := (w64 (1767139200 + t6))
 (made_Dice_Bool r5.2.1 r5.2.2 3).bind fun r9 =>
 cond r9.1 (
 let t12 : (List Int) := [(-1), 1, 1800, 3599]
 (made_Dice_Pick r9.2.1 r9.2.2 t12).bind fun r13 =>
 let t14 := (w64 (t7 + r13.1))
 some (t14, r13.2.1, r13.2.2)) (
 some (t7, r9.2.1, r9.2.2))
def made_Dice_Edit (a0_d : (List Int)) (a0_d_1 : Int) (a1_c : Tn73) : Option (Tn25 × (List Int) × Int) :=
 let t9 := (Int.ofNat (List.length a1_c.2.1))
 (made_Dice_Next a0_d a0_d_1 3).bind fun r11 =>
 (made_Dice_Next r11.2.1 r11.2.2 t9).bind fun r14 =>
 (made_Dice_Instant r14.2.1 r14.2.2).bind fun r16 =>
 let t21 : (List Int) := [3600, 86400, 7, 259200, 40000]
 (made_Dice_Pick r16.2.1 r16.2.2 t21).bind fun r22 =>
 let t23 := (w64 (r16.1 + r22.1))
 cond (r11.1 == 2) (
 cond (decide (t9 < 2)) (
 some ((0, (r14.1, (0, (r16.1, t23)))), r22.2.1, r22.2.2)) (
 let t34 := (w64 (r14.1 + 1))
 let t37 := (w64 (t9 - 1))
 (made_Dice_Next r22.2.1 r22.2.2 t37).bind fun r38 =>
 let t39 := (w64 (t34 + r38.1))
 cond (!(t9 == 0)) (
 let t41 := (Int.tmod t39 t9)
 cond (r11.1 == 1) (
 (made_Dice_Bool r38.2.1 r38.2.2 4).bind fun r48 =>
 cond r48.1 (
 some ((r11.1, ((-1), (t41, (r16.1, t23)))), r48.2.1, r48.2.2)) (
 some ((r11.1, (r14.1, (t41, (r16.1, t23)))), r48.2.1, r48.2.2))) (
 some ((r11.1, (r14.1, (t41, (r16.1, t23)))), r38.2.1, r38.2.2))) none)) (
 cond (r11.1 == 1) (
 (made_Dice_Bool r22.2.1 r22.2.2 4).bind fun r48_1 =>
 cond r48_1.1 (
 some ((r11.1, ((-1), (0, (r16.1, t23)))), r48_1.2.1, r48_1.2.2)) (
 some ((r11.1, (r14.1, (0, (r16.1, t23)))), r48_1.2.1, r48_1.2.2))) (
 some ((r11.1, (r14.1, (0, (r16.1, t23)))), r22.2.1, r22.2.2)))
def made_Dice_Config_l2_step [LP] (s6 s8 : Int) (b0 : (List Int)) (b0_1 : Int) (b5 : Tn56) (b5_1 : Tn50) (b5_2 : Tn27) (b7 : ByteArray) (l5c3 : Tn67) (l7c1 : Tn62) : Option ((Int × Int × (List Int) × Int × Tn56 × Tn50 × Tn27 × ByteArray × Tn67 × Tn62) ⊕ ((Int × (List Int) × Int × Tn56 × Tn50 × Tn27 × ByteArray × Tn67 × Tn62))) :=
 cond (decide (s8 > 0)) (
 (made_names).bind fun r38_8 =>
 let t41_5 := (Int.ofNat (List.length l7c1))
 cond (inR t41_5 (List.length r38_8)) (
 let t43_8 := (List.getD r38_8 (Int.toNat t41_5) ByteArray.empty)
 (made_Dice_Layer b0 b0_1 (b5, (b5_1, (b5_2, l5c3))) t43_8).bind fun r44_8 =>
 let t45_8 : Tn62 := [(r44_8.1.1, (r44_8.1.2.1, ((r44_8.1.2.2.1.1, r44_8.1.2.2.1.2), (r44_8.1.2.2.2.1, (r44_8.1.2.2.2.2.1, (r44_8.1.2.2.2.2.2.1, (r44_8.1.2.2.2.2.2.2.1, (r44_8.1.2.2.2.2.2.2.2.1, r44_8.1.2.2.2.2.2.2.2.2))))))))]
 cond (decide (List.length l7c1 + List.length t45_8 ≤ sizeMax)) (
 let t46_8 : Tn62 := (l7c1 ++ t45_8)
 let t33_8 := (w64 (s8 - 1))
 some (.inl (s6, t33_8, r44_8.2.1, r44_8.2.2, b5, b5_1, b5_2, b7, l5c3, t46_8))) none) none) (
 some (.inr (s6, b0, b0_1, b5, b5_1, b5_2, b7, l5c3, l7c1)))
def made_Dice_Config_l2 [LP] (s6 s8 : Int) (b0 : (List Int)) (b0_1 : Int) (b5 : Tn56) (b5_1 : Tn50) (b5_2 : Tn27) (b7 : ByteArray) (l5c3 : Tn67) (l7c1 : Tn62) : Option ((Int × (List Int) × Int × Tn56 × Tn50 × Tn27 × ByteArray × Tn67 × Tn62)) :=
 LP.lp (fun h : Int × Int × (List Int) × Int × Tn56 × Tn50 × Tn27 × ByteArray × Tn67 × Tn62 => made_Dice_Config_l2_step h.1 h.2.1 h.2.2.1 h.2.2.2.1 h.2.2.2.2.1 h.2.2.2.2.2.1 h.2.2.2.2.2.2.1 h.2.2.2.2.2.2.2.1 h.2.2.2.2.2.2.2.2.1 h.2.2.2.2.2.2.2.2.2) (s6, s8, b0, b0_1, b5, b5_1, b5_2, b7, l5c3, l7c1)
theorem made_Dice_Config_l2_eq (s6 s8 : Int) (b0 : (List Int)) (b0_1 : Int) (b5 : Tn56) (b5_1 : Tn50) (b5_2 : Tn27) (b7 : ByteArray) (l5c3 : Tn67) (l7c1 : Tn62) : made_Dice_Config_l2 s6 s8 b0 b0_1 b5 b5_1 b5_2 b7 l5c3 l7c1 = lpK (made_Dice_Config_l2_step s6 s8 b0 b0_1 b5 b5_1 b5_2 b7 l5c3 l7c1) (fun h => made_Dice_Config_l2 h.1 h.2.1 h.2.2.1 h.2.2.2.1 h.2.2.2.2.1 h.2.2.2.2.2.1 h.2.2.2.2.2.2.1 h.2.2.2.2.2.2.2.1 h.2.2.2.2.2.2.2.2.1 h.2.2.2.2.2.2.2.2.2) := loopOpt_eq _ _
def made_Dice_Config_l4_step (s6 s9 : Int) (b0 : (List Int)) (b0_1 : Int) (b5 : Tn56) (b5_1 : Tn50) (b5_2 : Tn27) (b7 : ByteArray) (l5c3 : Tn67) (l7c1 : Tn62) (l7c2 : Tn31) : Option ((Int × Int × (List Int) × Int × Tn56 × Tn50 × Tn27 × ByteArray × Tn67 × Tn62 × Tn31) ⊕ ((Int × (List Int) × Int × Tn56 × Tn50 × Tn27 × ByteArray × Tn67 × Tn62 × Tn31))) :=
 cond (decide (s9 > 0)) (
 (made_Dice_Edit b0 b0_1 (b5, (b5_1, (b5_2, l5c3)))).bind fun r58_8 =>
 let t59_8 : Tn31 := [(r58_8.1.1, (r58_8.1.2.1, (r58_8.1.2.2.1, (r58_8.1.2.2.2.1, r58_8.1.2.2.2.2))))]
 cond (decide (List.length l7c2 + List.length t59_8 ≤ sizeMax)) (
 let t60_8 : Tn31 := (l7c2 ++ t59_8)
 let t53_8 := (w64 (s9 - 1))
 some (.inl (s6, t53_8, r58_8.2.1, r58_8.2.2, b5, b5_1, b5_2, b7, l5c3, l7c1, t60_8))) none) (
 some (.inr (s6, b0, b0_1, b5, b5_1, b5_2, b7, l5c3, l7c1, l7c2)))
def made_Dice_Config_l4 [LP] (s6 s9 : Int) (b0 : (List Int)) (b0_1 : Int) (b5 : Tn56) (b5_1 : Tn50) (b5_2 : Tn27) (b7 : ByteArray) (l5c3 : Tn67) (l7c1 : Tn62) (l7c2 : Tn31) : Option ((Int × (List Int) × Int × Tn56 × Tn50 × Tn27 × ByteArray × Tn67 × Tn62 × Tn31)) :=
 LP.lp (fun h : Int × Int × (List Int) × Int × Tn56 × Tn50 × Tn27 × ByteArray × Tn67 × Tn62 × Tn31 => made_Dice_Config_l4_step h.1 h.2.1 h.2.2.1 h.2.2.2.1 h.2.2.2.2.1 h.2.2.2.2.2.1 h.2.2.2.2.2.2.1 h.2.2.2.2.2.2.2.1 h.2.2.2.2.2.2.2.2.1 h.2.2.2.2.2.2.2.2.2.1 h.2.2.2.2.2.2.2.2.2.2) (s6, s9, b0, b0_1, b5, b5_1, b5_2, b7, l5c3, l7c1, l7c2)
theorem made_Dice_Config_l4_eq (s6 s9 : Int) (b0 : (List Int)) (b0_1 : Int) (b5 : Tn56) (b5_1 : Tn50) (b5_2 : Tn27) (b7 : ByteArray) (l5c3 : Tn67) (l7c1 : Tn62) (l7c2 : Tn31) : made_Dice_Config_l4 s6 s9 b0 b0_1 b5 b5_1 b5_2 b7 l5c3 l7c1 l7c2 = lpK (made_Dice_Config_l4_step s6 s9 b0 b0_1 b5 b5_1 b5_2 b7 l5c3 l7c1 l7c2) (fun h => made_Dice_Config_l4 h.1 h.2.1 h.2.2.1 h.2.2.2.1 h.2.2.2.2.1 h.2.2.2.2.2.1 h.2.2.2.2.2.2.1 h.2.2.2.2.2.2.2.1 h.2.2.2.2.2.2.2.2.1 h.2.2.2.2.2.2.2.2.2.1 h.2.2.2.2.2.2.2.2.2.2) := loopOpt_eq _ _
def made_Dice_Config_l0_step [LP] (s6 : Int) (b0 : (List Int)) (b0_1 : Int) (b5 : Tn56) (b5_1 : Tn50) (b5_2 : Tn27) (l5c3 : Tn67) : Option ((Int × (List Int) × Int × Tn56 × Tn50 × Tn27 × Tn67) ⊕ (((List Int) × Int × Tn56 × Tn50 × Tn27 × Tn67))) :=
 cond (decide (s6 > 0)) (
 let t20_3 : (List ByteArray) := [(ByteArray.mk #[102, 105, 114, 115, 116]), (ByteArray.mk #[115, 101, 99, 111, 110, 100]), (ByteArray.mk #[116, 104, 105, 114, 100])]
 let t23_2 := (Int.ofNat (List.length l5c3))
 let t24_3 := (Int.tmod t23_2 3)
 cond (inR t24_3 (List.length t20_3)) (
 let t26_3 := (List.getD t20_3 (Int.toNat t24_3) ByteArray.empty)
 (made_Dice_Next b0 b0_1 4).bind fun r29_3 =>
 (made_Dice_Config_l2 s6 r29_3.1 r29_3.2.1 r29_3.2.2 b5 b5_1 b5_2 t26_3 l5c3 ([] : Tn62)).bind fun q2_3 =>
 (made_Dice_Next q2_3.2.1 q2_3.2.2.1 4).bind fun r49_3 =>
 (made_Dice_Config_l4 q2_3.1 r49_3.1 r49_3.2.1 r49_3.2.2 q2_3.2.2.2.1 q2_3.2.2.2.2.1 q2_3.2.2.2.2.2.1 q2_3.2.2.2.2.2.2.1 q2_3.2.2.2.2.2.2.2.1 q2_3.2.2.2.2.2.2.2.2 ([] : Tn31)).bind fun q4_3 =>
 let t65_3 : Tn67 := [(q4_3.2.2.2.2.2.2.1, (q4_3.2.2.2.2.2.2.2.2.1, q4_3.2.2.2.2.2.2.2.2.2))]
 cond (decide (List.length q4_3.2.2.2.2.2.2.2.1 + List.length t65_3 ≤ sizeMax)) (
 let t66_3 : Tn67 := (q4_3.2.2.2.2.2.2.2.1 ++ t65_3)
 let t19_3 := (w64 (q4_3.1 - 1))
 some (.inl (t19_3, q4_3.2.1, q4_3.2.2.1, q4_3.2.2.2.1, q4_3.2.2.2.2.1, q4_3.2.2.2.2.2.1, t66_3))) none) none) (
 some (.inr (b0, b0_1, b5, b5_1, b5_2, l5c3)))
def made_Dice_Config_l0 [LP] (s6 : Int) (b0 : (List Int)) (b0_1 : Int) (b5 : Tn56) (b5_1 : Tn50) (b5_2 : Tn27) (l5c3 : Tn67) : Option (((List Int) × Int × Tn56 × Tn50 × Tn27 × Tn67)) :=
 LP.lp (fun h : Int × (List Int) × Int × Tn56 × Tn50 × Tn27 × Tn67 => made_Dice_Config_l0_step h.1 h.2.1 h.2.2.1 h.2.2.2.1 h.2.2.2.2.1 h.2.2.2.2.2.1 h.2.2.2.2.2.2) (s6, b0, b0_1, b5, b5_1, b5_2, l5c3)
theorem made_Dice_Config_l0_eq (s6 : Int) (b0 : (List Int)) (b0_1 : Int) (b5 : Tn56) (b5_1 : Tn50) (b5_2 : Tn27) (l5c3 : Tn67) : made_Dice_Config_l0 s6 b0 b0_1 b5 b5_1 b5_2 l5c3 = lpK (made_Dice_Config_l0_step s6 b0 b0_1 b5 b5_1 b5_2 l5c3) (fun h => made_Dice_Config_l0 h.1 h.2.1 h.2.2.1 h.2.2.2.1 h.2.2.2.2.1 h.2.2.2.2.2.1 h.2.2.2.2.2.2) := loopOpt_eq _ _
def made_Dice_Config [LP] (a0_d : (List Int)) (a0_d_1 a1_n : Int) : Option (Tn73 × (List Int) × Int) :=
 (made_Dice_Staff a0_d a0_d_1).bind fun r11 =>
 (made_Dice_Next r11.2.1 r11.2.2 a1_n).bind fun r14 =>
 let t15 := (w64 (1 + r14.1))
 (made_Dice_Config_l0 t15 r14.2.1 r14.2.2 r11.1.1 r11.1.2.1 r11.1.2.2.1 ([] : Tn67)).bind fun q0 =>
 some ((q0.2.2.1, (q0.2.2.2.1, (q0.2.2.2.2.1, q0.2.2.2.2.2))), q0.1, q0.2.1)
def law16_CycleLayers_l2_step (s5 : Int) (s7 : Tn62) (s8 s10 s12 s39 s40 : Int) : Option ((Int × Tn62 × Int × Int × Int × Int × Int) ⊕ ((Int × Tn62 × Int × Int × Int))) :=
 cond (!(s10 == 0)) (
 let t66_1 := (Int.tmod s8 s10)
 cond (t66_1 != 0) (
 let t70_1 := (w64 (s8 + s12))
 some (.inl (s5, s7, t70_1, s10, s12, s39, s40))) (
 some (.inr (s5, s7, s8, s39, s40)))) none
def law16_CycleLayers_l2 [LP] (s5 : Int) (s7 : Tn62) (s8 s10 s12 s39 s40 : Int) : Option ((Int × Tn62 × Int × Int × Int)) :=
 LP.lp (fun h : Int × Tn62 × Int × Int × Int × Int × Int => law16_CycleLayers_l2_step h.1 h.2.1 h.2.2.1 h.2.2.2.1 h.2.2.2.2.1 h.2.2.2.2.2.1 h.2.2.2.2.2.2) (s5, s7, s8, s10, s12, s39, s40)
theorem law16_CycleLayers_l2_eq (s5 : Int) (s7 : Tn62) (s8 s10 s12 s39 s40 : Int) : law16_CycleLayers_l2 s5 s7 s8 s10 s12 s39 s40 = lpK (law16_CycleLayers_l2_step s5 s7 s8 s10 s12 s39 s40) (fun h => law16_CycleLayers_l2 h.1 h.2.1 h.2.2.1 h.2.2.2.1 h.2.2.2.2.1 h.2.2.2.2.2.1 h.2.2.2.2.2.2) := loopOpt_eq _ _
def law16_CycleLayers_l0_step [LP] (s5 : Int) (s7 : Tn62) (s8 s39 s40 : Int) : Option ((Int × Tn62 × Int × Int × Int) ⊕ (Bool ⊕ (Int × Int))) :=
 cond (decide (s40 < s39)) (
 cond (inR s40 (List.length s7)) (
 let t46_1 := (List.getD s7 (Int.toNat s40) (ByteArray.empty, (0, ((0, 0), (0, (0, (([] : (List Int)), (([] : Tn2), (0, 0)))))))))
 (cycle_Layer (t46_1.1, (t46_1.2.1, ((t46_1.2.2.1.1, t46_1.2.2.1.2), (t46_1.2.2.2.1, (t46_1.2.2.2.2.1, (t46_1.2.2.2.2.2.1, (t46_1.2.2.2.2.2.2.1, (t46_1.2.2.2.2.2.2.2.1, t46_1.2.2.2.2.2.2.2.2))))))))).bind fun r48_1 =>
 cond ((!(r48_1.1 == 0)) || !(!(cond (r48_1.2 != 0) true (decide (r48_1.1 ≤ 0))))) (
 let t60_1 := (Int.tmod s5 r48_1.1)
 let t62_1 : Bool := (cond (cond (r48_1.2 != 0) true (decide (r48_1.1 ≤ 0))) true (t60_1 != 0))
 cond t62_1 (
 some (.inr (.inl false))) (
 (law16_CycleLayers_l2 s5 s7 s8 r48_1.1 s8 s39 s40).bind fun q2_1 =>
 let t71_1 := (w64 (q2_1.2.2.2.2 + 1))
 some (.inl (q2_1.1, q2_1.2.1, q2_1.2.2.1, q2_1.2.2.2.1, t71_1)))) none) none) (
 some (.inr (.inr (s5, s8))))
def law16_CycleLayers_l0 [LP] (s5 : Int) (s7 : Tn62) (s8 s39 s40 : Int) : Option (Bool ⊕ (Int × Int)) :=
 LP.lp (fun h : Int × Tn62 × Int × Int × Int => law16_CycleLayers_l0_step h.1 h.2.1 h.2.2.1 h.2.2.2.1 h.2.2.2.2) (s5, s7, s8, s39, s40)
theorem law16_CycleLayers_l0_eq (s5 : Int) (s7 : Tn62) (s8 s39 s40 : Int) : law16_CycleLayers_l0 s5 s7 s8 s39 s40 = lpK (law16_CycleLayers_l0_step s5 s7 s8 s39 s40) (fun h => law16_CycleLayers_l0 h.1 h.2.1 h.2.2.1 h.2.2.2.1 h.2.2.2.2) := loopOpt_eq _ _
def law16_CycleLayers [LP] (a0_t : (List Int)) : Option (Bool) :=
 (made_Light a0_t).bind fun r14 =>
 cond (!r14) (
 (law16_sane).bind fun r16 =>
 some r16) (
 (made_Roll a0_t).bind fun r18 =>
 (made_Dice_Config r18.1 r18.2 1).bind fun r20 =>
 (cycle_Period (r20.1.1, (r20.1.2.1, (r20.1.2.2.1, r20.1.2.2.2))) 0).bind fun r23 =>
 cond (r23.2 != 0) (
 cond (r23.2 == 5) (
 (law16_sane).bind fun r31 =>
 some r31) (
 some false)) (
 cond (inR 0 (List.length r20.1.2.2.2)) (
 let t35 := (List.getD r20.1.2.2.2 0 (ByteArray.empty, (([] : Tn62), ([] : Tn31))))
 let t39 := (Int.ofNat (List.length t35.2.1))
 (law16_CycleLayers_l0 r23.1 t35.2.1 604800 t39 0).bind fun q0 =>
 sumC q0 (fun a =>
 some a) (fun b =>
 cond (b.1 == b.2) (
 (law16_sane).bind fun r76 =>
 some r76) (
 some false))) none))
end
end Go.Proofs.Pw
