/- Twins with a bound on their rounds, printed by a program. -/
import Derived.Test.YtielflihgdebiaaFns
import Derived.Test.YtielflihgdebiaaLD
import Derived.KernelRfl
open Go Go.Lft
set_option linter.unusedVariables false
set_option maxRecDepth 100000
namespace Go.Proofs.Pw


def civil_number_l0_x (N : Nat) (s3 : Int) (s4 : Int) (b1 : Int) (b1_1 : Int) (b1_2 : Int) : Option (Int) :=
  loopN (fun h : Int × Int × Int × Int × Int => civil_number_l0_step h.1 h.2.1 h.2.2.1 h.2.2.2.1 h.2.2.2.2) N (s3, s4, b1, b1_1, b1_2)

theorem civil_number_l0_le (N : Nat) (s3 : Int) (s4 : Int) (b1 : Int) (b1_1 : Int) (b1_2 : Int) : OLe (civil_number_l0_x N s3 s4 b1 b1_1 b1_2) (civil_number_l0 s3 s4 b1 b1_1 b1_2) := OLe.loop N _ fun h => OLe.refl _

def civil_number_x (N : Nat) (a0_d : (Int × (Int × Int))) : Option (Int) :=
  (civil_count a0_d.1).bind fun r7 =>
  let t10 : Int := (w64 (r7 + a0_d.2.2))
  let t11 : Int := (w64 (t10 - (1 : Int)))
  (civil_number_l0_x N t11 (1 : Int) a0_d.1 a0_d.2.1 a0_d.2.2).bind fun q0 =>
  some q0

theorem civil_number_le (N : Nat) (a0_d : (Int × (Int × Int))) : OLe (civil_number_x N a0_d) (civil_number a0_d) := by
  unfold civil_number_x civil_number
  repeat' (first | with_reducible exact OLe.refl _ | with_reducible exact OLe.none _ | (with_reducible exact civil_number_l0_le N _ _ _ _ _) | (with_reducible apply OLe.cond) | (with_reducible apply OLe.sumC) | (with_reducible refine OLe.bind ?_ ?_) | intro _)

def civil_Nth_x (N : Nat) (a0_year : Int) (a1_month : Int) (a2_week : Int) (a3_weekday : Int) : Option (Int × Int) :=
  (civil_Valid (a0_year, (a1_month, (1 : Int)))).bind fun r17 =>
  let t26 : Bool := (cond (cond (!r17) true (decide (a2_week < (1 : Int)))) true (decide (a2_week > (5 : Int))))
  let t34 : Bool := (cond (cond t26 true (decide (a3_weekday < (0 : Int)))) true (decide (a3_weekday > (6 : Int))))
  cond t34 (
  some ((0 : Int), (1 : Int))) (
  (civil_number_x N (a0_year, (a1_month, (1 : Int)))).bind fun r36 =>
  (civil_Weekday r36).bind fun r40 =>
  let t41 : Int := (w64 (a3_weekday - r40))
  let t42 : Int := (w64 (t41 + (7 : Int)))
  let t43 : Int := (Int.tmod t42 (7 : Int))
  let t44 : Int := (w64 (r36 + t43))
  let t46 : Int := (w64 (a2_week - (1 : Int)))
  let t47 : Int := (w64 ((7 : Int) * t46))
  let t48 : Int := (w64 (t44 + t47))
  (civil_Days a0_year a1_month).bind fun r53 =>
  let t54 : Int := (w64 (r36 + r53))
  cond (decide (t48 ≥ t54)) (
  let t57 : Int := (w64 (t48 - (7 : Int)))
  some (t57, (0 : Int))) (
  some (t48, (0 : Int))))

theorem civil_Nth_le (N : Nat) (a0_year : Int) (a1_month : Int) (a2_week : Int) (a3_weekday : Int) : OLe (civil_Nth_x N a0_year a1_month a2_week a3_weekday) (civil_Nth a0_year a1_month a2_week a3_weekday) := by
  unfold civil_Nth_x civil_Nth
  repeat' (first | with_reducible exact OLe.refl _ | with_reducible exact OLe.none _ | (with_reducible exact civil_number_le N _) | (with_reducible apply OLe.cond) | (with_reducible apply OLe.sumC) | (with_reducible refine OLe.bind ?_ ?_) | intro _)

def slices_insertionSortCmpFunc_zone_occurrence_l2_x (N : Nat) (s1 : Int) (s2 : Int) (s8 : Int) (s9 : Int) (b0 : (List (Int × Int))) : Option ((Int × Int × Int × (List (Int × Int)))) :=
  loopN (fun h : Int × Int × Int × Int × (List (Int × Int)) => slices_insertionSortCmpFunc_zone_occurrence_l2_step h.1 h.2.1 h.2.2.1 h.2.2.2.1 h.2.2.2.2) N (s1, s2, s8, s9, b0)

theorem slices_insertionSortCmpFunc_zone_occurrence_l2_le (N : Nat) (s1 : Int) (s2 : Int) (s8 : Int) (s9 : Int) (b0 : (List (Int × Int))) : OLe (slices_insertionSortCmpFunc_zone_occurrence_l2_x N s1 s2 s8 s9 b0) (slices_insertionSortCmpFunc_zone_occurrence_l2 s1 s2 s8 s9 b0) := OLe.loop N _ fun h => OLe.refl _

def slices_insertionSortCmpFunc_zone_occurrence_l0_step_x (N : Nat) (s1 : Int) (s2 : Int) (s8 : Int) (b0 : (List (Int × Int))) : Option ((Int × Int × Int × (List (Int × Int))) ⊕ ((List (Int × Int)))) :=
  cond (decide (s8 < s2)) (
  (slices_insertionSortCmpFunc_zone_occurrence_l2_x N s1 s2 s8 s8 b0).bind fun q2_1 =>
  let t16_1 : Int := (w64 (q2_1.2.2.1 + (1 : Int)))
  some (.inl (q2_1.1, q2_1.2.1, t16_1, q2_1.2.2.2))) (
  some (.inr b0))

theorem slices_insertionSortCmpFunc_zone_occurrence_l0_step_le (N : Nat) (s1 : Int) (s2 : Int) (s8 : Int) (b0 : (List (Int × Int))) : OLe (slices_insertionSortCmpFunc_zone_occurrence_l0_step_x N s1 s2 s8 b0) (slices_insertionSortCmpFunc_zone_occurrence_l0_step s1 s2 s8 b0) := by
  unfold slices_insertionSortCmpFunc_zone_occurrence_l0_step_x slices_insertionSortCmpFunc_zone_occurrence_l0_step
  repeat' (first | with_reducible exact OLe.refl _ | with_reducible exact OLe.none _ | (with_reducible exact slices_insertionSortCmpFunc_zone_occurrence_l2_le N _ _ _ _ _) | (with_reducible apply OLe.cond) | (with_reducible apply OLe.sumC) | (with_reducible refine OLe.bind ?_ ?_) | intro _)

def slices_insertionSortCmpFunc_zone_occurrence_l0_x (N : Nat) (s1 : Int) (s2 : Int) (s8 : Int) (b0 : (List (Int × Int))) : Option ((List (Int × Int))) :=
  loopN (fun h : Int × Int × Int × (List (Int × Int)) => slices_insertionSortCmpFunc_zone_occurrence_l0_step_x N h.1 h.2.1 h.2.2.1 h.2.2.2) N (s1, s2, s8, b0)

theorem slices_insertionSortCmpFunc_zone_occurrence_l0_le (N : Nat) (s1 : Int) (s2 : Int) (s8 : Int) (b0 : (List (Int × Int))) : OLe (slices_insertionSortCmpFunc_zone_occurrence_l0_x N s1 s2 s8 b0) (slices_insertionSortCmpFunc_zone_occurrence_l0 s1 s2 s8 b0) := OLe.loop N _ fun h => slices_insertionSortCmpFunc_zone_occurrence_l0_step_le N _ _ _ _

def slices_insertionSortCmpFunc_zone_occurrence_x (N : Nat) (a0_data : (List (Int × Int))) (a1_a : Int) (a2_b : Int) : Option ((List (Int × Int))) :=
  let t11 : Int := (w64 (a1_a + (1 : Int)))
  (slices_insertionSortCmpFunc_zone_occurrence_l0_x N a1_a a2_b t11 a0_data).bind fun q0 =>
  some q0

theorem slices_insertionSortCmpFunc_zone_occurrence_le (N : Nat) (a0_data : (List (Int × Int))) (a1_a : Int) (a2_b : Int) : OLe (slices_insertionSortCmpFunc_zone_occurrence_x N a0_data a1_a a2_b) (slices_insertionSortCmpFunc_zone_occurrence a0_data a1_a a2_b) := by
  unfold slices_insertionSortCmpFunc_zone_occurrence_x slices_insertionSortCmpFunc_zone_occurrence
  repeat' (first | with_reducible exact OLe.refl _ | with_reducible exact OLe.none _ | (with_reducible exact slices_insertionSortCmpFunc_zone_occurrence_l0_le N _ _ _ _) | (with_reducible apply OLe.cond) | (with_reducible apply OLe.sumC) | (with_reducible refine OLe.bind ?_ ?_) | intro _)

def slices_swapRangeCmpFunc_zone_occurrence_l0_x (N : Nat) (s1 : Int) (s2 : Int) (s3 : Int) (s10 : Int) (b0 : (List (Int × Int))) : Option ((List (Int × Int))) :=
  loopN (fun h : Int × Int × Int × Int × (List (Int × Int)) => slices_swapRangeCmpFunc_zone_occurrence_l0_step h.1 h.2.1 h.2.2.1 h.2.2.2.1 h.2.2.2.2) N (s1, s2, s3, s10, b0)

theorem slices_swapRangeCmpFunc_zone_occurrence_l0_le (N : Nat) (s1 : Int) (s2 : Int) (s3 : Int) (s10 : Int) (b0 : (List (Int × Int))) : OLe (slices_swapRangeCmpFunc_zone_occurrence_l0_x N s1 s2 s3 s10 b0) (slices_swapRangeCmpFunc_zone_occurrence_l0 s1 s2 s3 s10 b0) := OLe.loop N _ fun h => OLe.refl _

def slices_swapRangeCmpFunc_zone_occurrence_x (N : Nat) (a0_data : (List (Int × Int))) (a1_a : Int) (a2_b : Int) (a3_n : Int) : Option ((List (Int × Int))) :=
  (slices_swapRangeCmpFunc_zone_occurrence_l0_x N a1_a a2_b a3_n (0 : Int) a0_data).bind fun q0 =>
  some q0

theorem slices_swapRangeCmpFunc_zone_occurrence_le (N : Nat) (a0_data : (List (Int × Int))) (a1_a : Int) (a2_b : Int) (a3_n : Int) : OLe (slices_swapRangeCmpFunc_zone_occurrence_x N a0_data a1_a a2_b a3_n) (slices_swapRangeCmpFunc_zone_occurrence a0_data a1_a a2_b a3_n) := by
  unfold slices_swapRangeCmpFunc_zone_occurrence_x slices_swapRangeCmpFunc_zone_occurrence
  repeat' (first | with_reducible exact OLe.refl _ | with_reducible exact OLe.none _ | (with_reducible exact slices_swapRangeCmpFunc_zone_occurrence_l0_le N _ _ _ _ _) | (with_reducible apply OLe.cond) | (with_reducible apply OLe.sumC) | (with_reducible refine OLe.bind ?_ ?_) | intro _)

def slices_rotateCmpFunc_zone_occurrence_l0_step_x (N : Nat) (s2 : Int) (s10 : Int) (s11 : Int) (b0 : (List (Int × Int))) : Option ((Int × Int × Int × (List (Int × Int))) ⊕ ((Int × Int × (List (Int × Int))))) :=
  cond (s10 != s11) (
  cond (decide (s10 > s11)) (
  let t27_1 : Int := (w64 (s2 - s10))
  (slices_swapRangeCmpFunc_zone_occurrence_x N b0 t27_1 s2 s11).bind fun r31_1 =>
  let t34_1 : Int := (w64 (s10 - s11))
  some (.inl (s2, t34_1, s11, r31_1))) (
  let t38_1 : Int := (w64 (s2 - s10))
  let t41_1 : Int := (w64 (s2 + s11))
  let t43_1 : Int := (w64 (t41_1 - s10))
  (slices_swapRangeCmpFunc_zone_occurrence_x N b0 t38_1 t43_1 s10).bind fun r46_1 =>
  let t49_1 : Int := (w64 (s11 - s10))
  some (.inl (s2, s10, t49_1, r46_1)))) (
  some (.inr (s2, s10, b0)))

theorem slices_rotateCmpFunc_zone_occurrence_l0_step_le (N : Nat) (s2 : Int) (s10 : Int) (s11 : Int) (b0 : (List (Int × Int))) : OLe (slices_rotateCmpFunc_zone_occurrence_l0_step_x N s2 s10 s11 b0) (slices_rotateCmpFunc_zone_occurrence_l0_step s2 s10 s11 b0) := by
  unfold slices_rotateCmpFunc_zone_occurrence_l0_step_x slices_rotateCmpFunc_zone_occurrence_l0_step
  repeat' (first | with_reducible exact OLe.refl _ | with_reducible exact OLe.none _ | (with_reducible exact slices_swapRangeCmpFunc_zone_occurrence_le N _ _ _ _) | (with_reducible apply OLe.cond) | (with_reducible apply OLe.sumC) | (with_reducible refine OLe.bind ?_ ?_) | intro _)

def slices_rotateCmpFunc_zone_occurrence_l0_x (N : Nat) (s2 : Int) (s10 : Int) (s11 : Int) (b0 : (List (Int × Int))) : Option ((Int × Int × (List (Int × Int)))) :=
  loopN (fun h : Int × Int × Int × (List (Int × Int)) => slices_rotateCmpFunc_zone_occurrence_l0_step_x N h.1 h.2.1 h.2.2.1 h.2.2.2) N (s2, s10, s11, b0)

theorem slices_rotateCmpFunc_zone_occurrence_l0_le (N : Nat) (s2 : Int) (s10 : Int) (s11 : Int) (b0 : (List (Int × Int))) : OLe (slices_rotateCmpFunc_zone_occurrence_l0_x N s2 s10 s11 b0) (slices_rotateCmpFunc_zone_occurrence_l0 s2 s10 s11 b0) := OLe.loop N _ fun h => slices_rotateCmpFunc_zone_occurrence_l0_step_le N _ _ _ _

def slices_rotateCmpFunc_zone_occurrence_x (N : Nat) (a0_data : (List (Int × Int))) (a1_a : Int) (a2_m : Int) (a3_b : Int) : Option ((List (Int × Int))) :=
  let t14 : Int := (w64 (a2_m - a1_a))
  let t17 : Int := (w64 (a3_b - a2_m))
  (slices_rotateCmpFunc_zone_occurrence_l0_x N a2_m t14 t17 a0_data).bind fun q0 =>
  let t53 : Int := (w64 (q0.1 - q0.2.1))
  (slices_swapRangeCmpFunc_zone_occurrence_x N q0.2.2 t53 q0.1 q0.2.1).bind fun r57 =>
  some r57

theorem slices_rotateCmpFunc_zone_occurrence_le (N : Nat) (a0_data : (List (Int × Int))) (a1_a : Int) (a2_m : Int) (a3_b : Int) : OLe (slices_rotateCmpFunc_zone_occurrence_x N a0_data a1_a a2_m a3_b) (slices_rotateCmpFunc_zone_occurrence a0_data a1_a a2_m a3_b) := by
  unfold slices_rotateCmpFunc_zone_occurrence_x slices_rotateCmpFunc_zone_occurrence
  repeat' (first | with_reducible exact OLe.refl _ | with_reducible exact OLe.none _ | (with_reducible exact slices_rotateCmpFunc_zone_occurrence_l0_le N _ _ _ _) | (with_reducible exact slices_swapRangeCmpFunc_zone_occurrence_le N _ _ _ _) | (with_reducible apply OLe.cond) | (with_reducible apply OLe.sumC) | (with_reducible refine OLe.bind ?_ ?_) | intro _)

def slices_symMergeCmpFunc_zone_occurrence_l0_x (N : Nat) (rec : (List (Int × Int)) → Int → Int → Int → Option ((List (Int × Int)))) (s1 : Int) (s10 : Int) (s11 : Int) (b0 : (List (Int × Int))) : Option ((Int × Int × (List (Int × Int)))) :=
  loopN (fun h : Int × Int × Int × (List (Int × Int)) => slices_symMergeCmpFunc_zone_occurrence_l0_step rec h.1 h.2.1 h.2.2.1 h.2.2.2) N (s1, s10, s11, b0)

theorem slices_symMergeCmpFunc_zone_occurrence_l0_le (N : Nat) (rec rec' : (List (Int × Int)) → Int → Int → Int → Option ((List (Int × Int)))) (hrec : ∀ v0 v1 v2 v3, OLe (rec v0 v1 v2 v3) (rec' v0 v1 v2 v3)) (s1 : Int) (s10 : Int) (s11 : Int) (b0 : (List (Int × Int))) : OLe (slices_symMergeCmpFunc_zone_occurrence_l0_x N rec s1 s10 s11 b0) (slices_symMergeCmpFunc_zone_occurrence_l0 rec' s1 s10 s11 b0) := OLe.loop N _ fun h => OLe.refl _

theorem slices_symMergeCmpFunc_zone_occurrence_l0_mono (rec rec' : (List (Int × Int)) → Int → Int → Int → Option ((List (Int × Int)))) (hrec : ∀ v0 v1 v2 v3, OLe (rec v0 v1 v2 v3) (rec' v0 v1 v2 v3)) (s1 : Int) (s10 : Int) (s11 : Int) (b0 : (List (Int × Int))) : OLe (slices_symMergeCmpFunc_zone_occurrence_l0 rec s1 s10 s11 b0) (slices_symMergeCmpFunc_zone_occurrence_l0 rec' s1 s10 s11 b0) := OLe.loopOpt _ fun h => OLe.refl _

def slices_symMergeCmpFunc_zone_occurrence_l2_x (N : Nat) (rec : (List (Int × Int)) → Int → Int → Int → Option ((List (Int × Int)))) (s10 : Int) (s13 : Int) (b0 : (List (Int × Int))) : Option ((List (Int × Int))) :=
  loopN (fun h : Int × Int × (List (Int × Int)) => slices_symMergeCmpFunc_zone_occurrence_l2_step rec h.1 h.2.1 h.2.2) N (s10, s13, b0)

theorem slices_symMergeCmpFunc_zone_occurrence_l2_le (N : Nat) (rec rec' : (List (Int × Int)) → Int → Int → Int → Option ((List (Int × Int)))) (hrec : ∀ v0 v1 v2 v3, OLe (rec v0 v1 v2 v3) (rec' v0 v1 v2 v3)) (s10 : Int) (s13 : Int) (b0 : (List (Int × Int))) : OLe (slices_symMergeCmpFunc_zone_occurrence_l2_x N rec s10 s13 b0) (slices_symMergeCmpFunc_zone_occurrence_l2 rec' s10 s13 b0) := OLe.loop N _ fun h => OLe.refl _

theorem slices_symMergeCmpFunc_zone_occurrence_l2_mono (rec rec' : (List (Int × Int)) → Int → Int → Int → Option ((List (Int × Int)))) (hrec : ∀ v0 v1 v2 v3, OLe (rec v0 v1 v2 v3) (rec' v0 v1 v2 v3)) (s10 : Int) (s13 : Int) (b0 : (List (Int × Int))) : OLe (slices_symMergeCmpFunc_zone_occurrence_l2 rec s10 s13 b0) (slices_symMergeCmpFunc_zone_occurrence_l2 rec' s10 s13 b0) := OLe.loopOpt _ fun h => OLe.refl _

def slices_symMergeCmpFunc_zone_occurrence_l4_x (N : Nat) (rec : (List (Int × Int)) → Int → Int → Int → Option ((List (Int × Int)))) (s2 : Int) (s14 : Int) (s15 : Int) (b0 : (List (Int × Int))) : Option ((Int × Int × (List (Int × Int)))) :=
  loopN (fun h : Int × Int × Int × (List (Int × Int)) => slices_symMergeCmpFunc_zone_occurrence_l4_step rec h.1 h.2.1 h.2.2.1 h.2.2.2) N (s2, s14, s15, b0)

theorem slices_symMergeCmpFunc_zone_occurrence_l4_le (N : Nat) (rec rec' : (List (Int × Int)) → Int → Int → Int → Option ((List (Int × Int)))) (hrec : ∀ v0 v1 v2 v3, OLe (rec v0 v1 v2 v3) (rec' v0 v1 v2 v3)) (s2 : Int) (s14 : Int) (s15 : Int) (b0 : (List (Int × Int))) : OLe (slices_symMergeCmpFunc_zone_occurrence_l4_x N rec s2 s14 s15 b0) (slices_symMergeCmpFunc_zone_occurrence_l4 rec' s2 s14 s15 b0) := OLe.loop N _ fun h => OLe.refl _

theorem slices_symMergeCmpFunc_zone_occurrence_l4_mono (rec rec' : (List (Int × Int)) → Int → Int → Int → Option ((List (Int × Int)))) (hrec : ∀ v0 v1 v2 v3, OLe (rec v0 v1 v2 v3) (rec' v0 v1 v2 v3)) (s2 : Int) (s14 : Int) (s15 : Int) (b0 : (List (Int × Int))) : OLe (slices_symMergeCmpFunc_zone_occurrence_l4 rec s2 s14 s15 b0) (slices_symMergeCmpFunc_zone_occurrence_l4 rec' s2 s14 s15 b0) := OLe.loopOpt _ fun h => OLe.refl _

def slices_symMergeCmpFunc_zone_occurrence_l6_x (N : Nat) (rec : (List (Int × Int)) → Int → Int → Int → Option ((List (Int × Int)))) (s14 : Int) (s17 : Int) (b0 : (List (Int × Int))) : Option ((List (Int × Int))) :=
  loopN (fun h : Int × Int × (List (Int × Int)) => slices_symMergeCmpFunc_zone_occurrence_l6_step rec h.1 h.2.1 h.2.2) N (s14, s17, b0)

theorem slices_symMergeCmpFunc_zone_occurrence_l6_le (N : Nat) (rec rec' : (List (Int × Int)) → Int → Int → Int → Option ((List (Int × Int)))) (hrec : ∀ v0 v1 v2 v3, OLe (rec v0 v1 v2 v3) (rec' v0 v1 v2 v3)) (s14 : Int) (s17 : Int) (b0 : (List (Int × Int))) : OLe (slices_symMergeCmpFunc_zone_occurrence_l6_x N rec s14 s17 b0) (slices_symMergeCmpFunc_zone_occurrence_l6 rec' s14 s17 b0) := OLe.loop N _ fun h => OLe.refl _

theorem slices_symMergeCmpFunc_zone_occurrence_l6_mono (rec rec' : (List (Int × Int)) → Int → Int → Int → Option ((List (Int × Int)))) (hrec : ∀ v0 v1 v2 v3, OLe (rec v0 v1 v2 v3) (rec' v0 v1 v2 v3)) (s14 : Int) (s17 : Int) (b0 : (List (Int × Int))) : OLe (slices_symMergeCmpFunc_zone_occurrence_l6 rec s14 s17 b0) (slices_symMergeCmpFunc_zone_occurrence_l6 rec' s14 s17 b0) := OLe.loopOpt _ fun h => OLe.refl _

def slices_symMergeCmpFunc_zone_occurrence_l8_x (N : Nat) (rec : (List (Int × Int)) → Int → Int → Int → Option ((List (Int × Int)))) (s1 : Int) (s2 : Int) (s3 : Int) (s18 : Int) (s19 : Int) (s20 : Int) (s21 : Int) (s22 : Int) (b0 : (List (Int × Int))) : Option ((Int × Int × Int × Int × Int × Int × (List (Int × Int)))) :=
  loopN (fun h : Int × Int × Int × Int × Int × Int × Int × Int × (List (Int × Int)) => slices_symMergeCmpFunc_zone_occurrence_l8_step rec h.1 h.2.1 h.2.2.1 h.2.2.2.1 h.2.2.2.2.1 h.2.2.2.2.2.1 h.2.2.2.2.2.2.1 h.2.2.2.2.2.2.2.1 h.2.2.2.2.2.2.2.2) N (s1, s2, s3, s18, s19, s20, s21, s22, b0)

theorem slices_symMergeCmpFunc_zone_occurrence_l8_le (N : Nat) (rec rec' : (List (Int × Int)) → Int → Int → Int → Option ((List (Int × Int)))) (hrec : ∀ v0 v1 v2 v3, OLe (rec v0 v1 v2 v3) (rec' v0 v1 v2 v3)) (s1 : Int) (s2 : Int) (s3 : Int) (s18 : Int) (s19 : Int) (s20 : Int) (s21 : Int) (s22 : Int) (b0 : (List (Int × Int))) : OLe (slices_symMergeCmpFunc_zone_occurrence_l8_x N rec s1 s2 s3 s18 s19 s20 s21 s22 b0) (slices_symMergeCmpFunc_zone_occurrence_l8 rec' s1 s2 s3 s18 s19 s20 s21 s22 b0) := OLe.loop N _ fun h => OLe.refl _

theorem slices_symMergeCmpFunc_zone_occurrence_l8_mono (rec rec' : (List (Int × Int)) → Int → Int → Int → Option ((List (Int × Int)))) (hrec : ∀ v0 v1 v2 v3, OLe (rec v0 v1 v2 v3) (rec' v0 v1 v2 v3)) (s1 : Int) (s2 : Int) (s3 : Int) (s18 : Int) (s19 : Int) (s20 : Int) (s21 : Int) (s22 : Int) (b0 : (List (Int × Int))) : OLe (slices_symMergeCmpFunc_zone_occurrence_l8 rec s1 s2 s3 s18 s19 s20 s21 s22 b0) (slices_symMergeCmpFunc_zone_occurrence_l8 rec' s1 s2 s3 s18 s19 s20 s21 s22 b0) := OLe.loopOpt _ fun h => OLe.refl _

def slices_symMergeCmpFunc_zone_occurrence_body_x (N : Nat) (rec : (List (Int × Int)) → Int → Int → Int → Option ((List (Int × Int)))) (a0_data : (List (Int × Int))) (a1_a : Int) (a2_m : Int) (a3_b : Int) : Option ((List (Int × Int))) :=
  let t27 : Int := (w64 (a2_m - a1_a))
  cond (t27 == (1 : Int)) (
  (slices_symMergeCmpFunc_zone_occurrence_l0_x N rec a1_a a2_m a3_b a0_data).bind fun q0 =>
  (slices_symMergeCmpFunc_zone_occurrence_l2_x N rec q0.2.1 q0.1 q0.2.2).bind fun q2 =>
  some q2) (
  let t79 : Int := (w64 (a3_b - a2_m))
  cond (t79 == (1 : Int)) (
  (slices_symMergeCmpFunc_zone_occurrence_l4_x N rec a2_m a1_a a2_m a0_data).bind fun q4 =>
  (slices_symMergeCmpFunc_zone_occurrence_l6_x N rec q4.2.1 q4.1 q4.2.2).bind fun q6 =>
  some q6) (
  let t131 : Int := (w64 (a1_a + a3_b))
  let t132 : Int := (IntKind.wrap .u64 t131)
  let t133 : Int := (Int.fdiv t132 (2 : Int))
  let t137 : Int := (w64 ((w64 t133) + a2_m))
  cond (decide (a2_m > (w64 t133))) (
  let t143 : Int := (w64 (t137 - a3_b))
  let t148 : Int := (w64 (t137 - (1 : Int)))
  (slices_symMergeCmpFunc_zone_occurrence_l8_x N rec a1_a a2_m a3_b (w64 t133) t137 t143 (w64 t133) t148 a0_data).bind fun q8 =>
  let t177 : Int := (w64 (q8.2.2.2.2.1 - q8.2.2.2.2.2.1))
  cond (cond (decide (q8.2.2.2.2.2.1 < q8.2.1)) (decide (q8.2.1 < t177)) false) (
  (slices_rotateCmpFunc_zone_occurrence_x N q8.2.2.2.2.2.2 q8.2.2.2.2.2.1 q8.2.1 t177).bind fun r191 =>
  cond (cond (decide (q8.1 < q8.2.2.2.2.2.1)) (decide (q8.2.2.2.2.2.1 < q8.2.2.2.1)) false) (
  (rec r191 q8.1 q8.2.2.2.2.2.1 q8.2.2.2.1).bind fun r205 =>
  cond (cond (decide (q8.2.2.2.1 < t177)) (decide (t177 < q8.2.2.1)) false) (
  (rec r205 q8.2.2.2.1 t177 q8.2.2.1).bind fun r219 =>
  some r219) (
  some r205)) (
  cond (cond (decide (q8.2.2.2.1 < t177)) (decide (t177 < q8.2.2.1)) false) (
  (rec r191 q8.2.2.2.1 t177 q8.2.2.1).bind fun r219_1 =>
  some r219_1) (
  some r191))) (
  cond (cond (decide (q8.1 < q8.2.2.2.2.2.1)) (decide (q8.2.2.2.2.2.1 < q8.2.2.2.1)) false) (
  (rec q8.2.2.2.2.2.2 q8.1 q8.2.2.2.2.2.1 q8.2.2.2.1).bind fun r205_1 =>
  cond (cond (decide (q8.2.2.2.1 < t177)) (decide (t177 < q8.2.2.1)) false) (
  (rec r205_1 q8.2.2.2.1 t177 q8.2.2.1).bind fun r219_2 =>
  some r219_2) (
  some r205_1)) (
  cond (cond (decide (q8.2.2.2.1 < t177)) (decide (t177 < q8.2.2.1)) false) (
  (rec q8.2.2.2.2.2.2 q8.2.2.2.1 t177 q8.2.2.1).bind fun r219_3 =>
  some r219_3) (
  some q8.2.2.2.2.2.2)))) (
  let t148_1 : Int := (w64 (t137 - (1 : Int)))
  (slices_symMergeCmpFunc_zone_occurrence_l8_x N rec a1_a a2_m a3_b (w64 t133) t137 a1_a a2_m t148_1 a0_data).bind fun q8_1 =>
  let t177_1 : Int := (w64 (q8_1.2.2.2.2.1 - q8_1.2.2.2.2.2.1))
  cond (cond (decide (q8_1.2.2.2.2.2.1 < q8_1.2.1)) (decide (q8_1.2.1 < t177_1)) false) (
  (slices_rotateCmpFunc_zone_occurrence_x N q8_1.2.2.2.2.2.2 q8_1.2.2.2.2.2.1 q8_1.2.1 t177_1).bind fun r191_1 =>
  let t199 : Bool := (cond (decide (q8_1.1 < q8_1.2.2.2.2.2.1)) (decide (q8_1.2.2.2.2.2.1 < q8_1.2.2.2.1)) false)
  cond t199 (
  (rec r191_1 q8_1.1 q8_1.2.2.2.2.2.1 q8_1.2.2.2.1).bind fun r205_2 =>
  cond (cond (decide (q8_1.2.2.2.1 < t177_1)) (decide (t177_1 < q8_1.2.2.1)) false) (
  (rec r205_2 q8_1.2.2.2.1 t177_1 q8_1.2.2.1).bind fun r219_4 =>
  some r219_4) (
  some r205_2)) (
  cond (cond (decide (q8_1.2.2.2.1 < t177_1)) (decide (t177_1 < q8_1.2.2.1)) false) (
  (rec r191_1 q8_1.2.2.2.1 t177_1 q8_1.2.2.1).bind fun r219_5 =>
  some r219_5) (
  some r191_1))) (
  let t199_1 : Bool := (cond (decide (q8_1.1 < q8_1.2.2.2.2.2.1)) (decide (q8_1.2.2.2.2.2.1 < q8_1.2.2.2.1)) false)
  cond t199_1 (
  (rec q8_1.2.2.2.2.2.2 q8_1.1 q8_1.2.2.2.2.2.1 q8_1.2.2.2.1).bind fun r205_3 =>
  cond (cond (decide (q8_1.2.2.2.1 < t177_1)) (decide (t177_1 < q8_1.2.2.1)) false) (
  (rec r205_3 q8_1.2.2.2.1 t177_1 q8_1.2.2.1).bind fun r219_6 =>
  some r219_6) (
  some r205_3)) (
  cond (cond (decide (q8_1.2.2.2.1 < t177_1)) (decide (t177_1 < q8_1.2.2.1)) false) (
  (rec q8_1.2.2.2.2.2.2 q8_1.2.2.2.1 t177_1 q8_1.2.2.1).bind fun r219_7 =>
  some r219_7) (
  some q8_1.2.2.2.2.2.2))))))

theorem slices_symMergeCmpFunc_zone_occurrence_body_le (N : Nat) (rec rec' : (List (Int × Int)) → Int → Int → Int → Option ((List (Int × Int)))) (hrec : ∀ v0 v1 v2 v3, OLe (rec v0 v1 v2 v3) (rec' v0 v1 v2 v3)) (a0_data : (List (Int × Int))) (a1_a : Int) (a2_m : Int) (a3_b : Int) : OLe (slices_symMergeCmpFunc_zone_occurrence_body_x N rec a0_data a1_a a2_m a3_b) (slices_symMergeCmpFunc_zone_occurrence_body rec' a0_data a1_a a2_m a3_b) := by
  unfold slices_symMergeCmpFunc_zone_occurrence_body_x slices_symMergeCmpFunc_zone_occurrence_body
  repeat' (first | with_reducible exact OLe.refl _ | with_reducible exact OLe.none _ | (with_reducible exact hrec _ _ _ _) | (with_reducible exact slices_symMergeCmpFunc_zone_occurrence_l0_le N _ _ hrec _ _ _ _) | (with_reducible exact slices_symMergeCmpFunc_zone_occurrence_l2_le N _ _ hrec _ _ _) | (with_reducible exact slices_symMergeCmpFunc_zone_occurrence_l4_le N _ _ hrec _ _ _ _) | (with_reducible exact slices_symMergeCmpFunc_zone_occurrence_l6_le N _ _ hrec _ _ _) | (with_reducible exact slices_symMergeCmpFunc_zone_occurrence_l8_le N _ _ hrec _ _ _ _ _ _ _ _ _) | (with_reducible exact slices_rotateCmpFunc_zone_occurrence_le N _ _ _ _) | (with_reducible apply OLe.cond) | (with_reducible apply OLe.sumC) | (with_reducible refine OLe.bind ?_ ?_) | intro _)

theorem slices_symMergeCmpFunc_zone_occurrence_body_mono (rec rec' : (List (Int × Int)) → Int → Int → Int → Option ((List (Int × Int)))) (hrec : ∀ v0 v1 v2 v3, OLe (rec v0 v1 v2 v3) (rec' v0 v1 v2 v3)) (a0_data : (List (Int × Int))) (a1_a : Int) (a2_m : Int) (a3_b : Int) : OLe (slices_symMergeCmpFunc_zone_occurrence_body rec a0_data a1_a a2_m a3_b) (slices_symMergeCmpFunc_zone_occurrence_body rec' a0_data a1_a a2_m a3_b) := by
  unfold slices_symMergeCmpFunc_zone_occurrence_body
  repeat' (first | with_reducible exact OLe.refl _ | with_reducible exact OLe.none _ | (with_reducible exact hrec _ _ _ _) | (with_reducible exact slices_symMergeCmpFunc_zone_occurrence_l0_mono _ _ hrec _ _ _ _) | (with_reducible exact slices_symMergeCmpFunc_zone_occurrence_l2_mono _ _ hrec _ _ _) | (with_reducible exact slices_symMergeCmpFunc_zone_occurrence_l4_mono _ _ hrec _ _ _ _) | (with_reducible exact slices_symMergeCmpFunc_zone_occurrence_l6_mono _ _ hrec _ _ _) | (with_reducible exact slices_symMergeCmpFunc_zone_occurrence_l8_mono _ _ hrec _ _ _ _ _ _ _ _ _) | (with_reducible apply OLe.cond) | (with_reducible apply OLe.sumC) | (with_reducible refine OLe.bind ?_ ?_) | intro _)

def slices_symMergeCmpFunc_zone_occurrence_rec_x (N : Nat) (g : ((List (Int × Int)) × Int × Int × Int) → Option ((List (Int × Int)))) (h : (List (Int × Int)) × Int × Int × Int) : Option ((List (Int × Int))) := slices_symMergeCmpFunc_zone_occurrence_body_x N (fun v0 v1 v2 v3 => g (v0, v1, v2, v3)) h.1 h.2.1 h.2.2.1 h.2.2.2

theorem slices_symMergeCmpFunc_zone_occurrence_rec_le (N : Nat) (g g' : ((List (Int × Int)) × Int × Int × Int) → Option ((List (Int × Int)))) (hg : ∀ a, OLe (g a) (g' a)) (h : (List (Int × Int)) × Int × Int × Int) : OLe (slices_symMergeCmpFunc_zone_occurrence_rec_x N g h) (slices_symMergeCmpFunc_zone_occurrence_rec g' h) := slices_symMergeCmpFunc_zone_occurrence_body_le N _ _ (by intros; exact hg _) _ _ _ _

theorem slices_symMergeCmpFunc_zone_occurrence_rec_mono (g g' : ((List (Int × Int)) × Int × Int × Int) → Option ((List (Int × Int)))) (hg : ∀ a, OLe (g a) (g' a)) (h : (List (Int × Int)) × Int × Int × Int) : OLe (slices_symMergeCmpFunc_zone_occurrence_rec g h) (slices_symMergeCmpFunc_zone_occurrence_rec g' h) := slices_symMergeCmpFunc_zone_occurrence_body_mono _ _ (by intros; exact hg _) _ _ _ _

def slices_symMergeCmpFunc_zone_occurrence_x (N : Nat) (a0_data : (List (Int × Int))) (a1_a : Int) (a2_m : Int) (a3_b : Int) : Option ((List (Int × Int))) := iterN (slices_symMergeCmpFunc_zone_occurrence_rec_x N) N (a0_data, a1_a, a2_m, a3_b)

theorem slices_symMergeCmpFunc_zone_occurrence_le (N : Nat) (a0_data : (List (Int × Int))) (a1_a : Int) (a2_m : Int) (a3_b : Int) : OLe (slices_symMergeCmpFunc_zone_occurrence_x N a0_data a1_a a2_m a3_b) (slices_symMergeCmpFunc_zone_occurrence a0_data a1_a a2_m a3_b) := OLe.rec N _ (fun g g' hg a => slices_symMergeCmpFunc_zone_occurrence_rec_le N g g' hg a) (fun g g' hg a => slices_symMergeCmpFunc_zone_occurrence_rec_mono g g' hg a)

def slices_stableCmpFunc_zone_occurrence_l0_step_x (N : Nat) (s1 : Int) (s6 : Int) (s7 : Int) (s8 : Int) (b0 : (List (Int × Int))) : Option ((Int × Int × Int × Int × (List (Int × Int))) ⊕ ((Int × Int × Int × (List (Int × Int))))) :=
  cond (decide (s8 ≤ s1)) (
  (slices_insertionSortCmpFunc_zone_occurrence_x N b0 s7 s8).bind fun r18_1 =>
  let t22_1 : Int := (w64 (s8 + s6))
  some (.inl (s1, s6, s8, t22_1, r18_1))) (
  some (.inr (s1, s6, s7, b0)))

theorem slices_stableCmpFunc_zone_occurrence_l0_step_le (N : Nat) (s1 : Int) (s6 : Int) (s7 : Int) (s8 : Int) (b0 : (List (Int × Int))) : OLe (slices_stableCmpFunc_zone_occurrence_l0_step_x N s1 s6 s7 s8 b0) (slices_stableCmpFunc_zone_occurrence_l0_step s1 s6 s7 s8 b0) := by
  unfold slices_stableCmpFunc_zone_occurrence_l0_step_x slices_stableCmpFunc_zone_occurrence_l0_step
  repeat' (first | with_reducible exact OLe.refl _ | with_reducible exact OLe.none _ | (with_reducible exact slices_insertionSortCmpFunc_zone_occurrence_le N _ _ _) | (with_reducible apply OLe.cond) | (with_reducible apply OLe.sumC) | (with_reducible refine OLe.bind ?_ ?_) | intro _)

def slices_stableCmpFunc_zone_occurrence_l0_x (N : Nat) (s1 : Int) (s6 : Int) (s7 : Int) (s8 : Int) (b0 : (List (Int × Int))) : Option ((Int × Int × Int × (List (Int × Int)))) :=
  loopN (fun h : Int × Int × Int × Int × (List (Int × Int)) => slices_stableCmpFunc_zone_occurrence_l0_step_x N h.1 h.2.1 h.2.2.1 h.2.2.2.1 h.2.2.2.2) N (s1, s6, s7, s8, b0)

theorem slices_stableCmpFunc_zone_occurrence_l0_le (N : Nat) (s1 : Int) (s6 : Int) (s7 : Int) (s8 : Int) (b0 : (List (Int × Int))) : OLe (slices_stableCmpFunc_zone_occurrence_l0_x N s1 s6 s7 s8 b0) (slices_stableCmpFunc_zone_occurrence_l0 s1 s6 s7 s8 b0) := OLe.loop N _ fun h => slices_stableCmpFunc_zone_occurrence_l0_step_le N _ _ _ _ _

def slices_stableCmpFunc_zone_occurrence_l4_step_x (N : Nat) (s1 : Int) (s6 : Int) (s7 : Int) (s8 : Int) (b0 : (List (Int × Int))) : Option ((Int × Int × Int × Int × (List (Int × Int))) ⊕ ((Int × Int × Int × (List (Int × Int))))) :=
  cond (decide (s8 ≤ s1)) (
  let t40_1 : Int := (w64 (s7 + s6))
  (slices_symMergeCmpFunc_zone_occurrence_x N b0 s7 t40_1 s8).bind fun r43_1 =>
  let t47_1 : Int := (w64 ((2 : Int) * s6))
  let t48_1 : Int := (w64 (s8 + t47_1))
  some (.inl (s1, s6, s8, t48_1, r43_1))) (
  some (.inr (s1, s6, s7, b0)))

theorem slices_stableCmpFunc_zone_occurrence_l4_step_le (N : Nat) (s1 : Int) (s6 : Int) (s7 : Int) (s8 : Int) (b0 : (List (Int × Int))) : OLe (slices_stableCmpFunc_zone_occurrence_l4_step_x N s1 s6 s7 s8 b0) (slices_stableCmpFunc_zone_occurrence_l4_step s1 s6 s7 s8 b0) := by
  unfold slices_stableCmpFunc_zone_occurrence_l4_step_x slices_stableCmpFunc_zone_occurrence_l4_step
  repeat' (first | with_reducible exact OLe.refl _ | with_reducible exact OLe.none _ | (with_reducible exact slices_symMergeCmpFunc_zone_occurrence_le N _ _ _ _) | (with_reducible apply OLe.cond) | (with_reducible apply OLe.sumC) | (with_reducible refine OLe.bind ?_ ?_) | intro _)

def slices_stableCmpFunc_zone_occurrence_l4_x (N : Nat) (s1 : Int) (s6 : Int) (s7 : Int) (s8 : Int) (b0 : (List (Int × Int))) : Option ((Int × Int × Int × (List (Int × Int)))) :=
  loopN (fun h : Int × Int × Int × Int × (List (Int × Int)) => slices_stableCmpFunc_zone_occurrence_l4_step_x N h.1 h.2.1 h.2.2.1 h.2.2.2.1 h.2.2.2.2) N (s1, s6, s7, s8, b0)

theorem slices_stableCmpFunc_zone_occurrence_l4_le (N : Nat) (s1 : Int) (s6 : Int) (s7 : Int) (s8 : Int) (b0 : (List (Int × Int))) : OLe (slices_stableCmpFunc_zone_occurrence_l4_x N s1 s6 s7 s8 b0) (slices_stableCmpFunc_zone_occurrence_l4 s1 s6 s7 s8 b0) := OLe.loop N _ fun h => slices_stableCmpFunc_zone_occurrence_l4_step_le N _ _ _ _ _

def slices_stableCmpFunc_zone_occurrence_l2_step_x (N : Nat) (s1 : Int) (s6 : Int) (b0 : (List (Int × Int))) : Option ((Int × Int × (List (Int × Int))) ⊕ ((List (Int × Int)))) :=
  cond (decide (s6 < s1)) (
  let t32_1 : Int := (w64 ((2 : Int) * s6))
  (slices_stableCmpFunc_zone_occurrence_l4_x N s1 s6 (0 : Int) t32_1 b0).bind fun q4_1 =>
  let t51_1 : Int := (w64 (q4_1.2.2.1 + q4_1.2.1))
  cond (decide (t51_1 < q4_1.1)) (
  (slices_symMergeCmpFunc_zone_occurrence_x N q4_1.2.2.2 q4_1.2.2.1 t51_1 q4_1.1).bind fun r60_1 =>
  let t62_2 : Int := (w64 (q4_1.2.1 * (2 : Int)))
  some (.inl (q4_1.1, t62_2, r60_1))) (
  let t62_3 : Int := (w64 (q4_1.2.1 * (2 : Int)))
  some (.inl (q4_1.1, t62_3, q4_1.2.2.2)))) (
  some (.inr b0))

theorem slices_stableCmpFunc_zone_occurrence_l2_step_le (N : Nat) (s1 : Int) (s6 : Int) (b0 : (List (Int × Int))) : OLe (slices_stableCmpFunc_zone_occurrence_l2_step_x N s1 s6 b0) (slices_stableCmpFunc_zone_occurrence_l2_step s1 s6 b0) := by
  unfold slices_stableCmpFunc_zone_occurrence_l2_step_x slices_stableCmpFunc_zone_occurrence_l2_step
  repeat' (first | with_reducible exact OLe.refl _ | with_reducible exact OLe.none _ | (with_reducible exact slices_stableCmpFunc_zone_occurrence_l4_le N _ _ _ _ _) | (with_reducible exact slices_symMergeCmpFunc_zone_occurrence_le N _ _ _ _) | (with_reducible apply OLe.cond) | (with_reducible apply OLe.sumC) | (with_reducible refine OLe.bind ?_ ?_) | intro _)

def slices_stableCmpFunc_zone_occurrence_l2_x (N : Nat) (s1 : Int) (s6 : Int) (b0 : (List (Int × Int))) : Option ((List (Int × Int))) :=
  loopN (fun h : Int × Int × (List (Int × Int)) => slices_stableCmpFunc_zone_occurrence_l2_step_x N h.1 h.2.1 h.2.2) N (s1, s6, b0)

theorem slices_stableCmpFunc_zone_occurrence_l2_le (N : Nat) (s1 : Int) (s6 : Int) (b0 : (List (Int × Int))) : OLe (slices_stableCmpFunc_zone_occurrence_l2_x N s1 s6 b0) (slices_stableCmpFunc_zone_occurrence_l2 s1 s6 b0) := OLe.loop N _ fun h => slices_stableCmpFunc_zone_occurrence_l2_step_le N _ _ _

def slices_stableCmpFunc_zone_occurrence_x (N : Nat) (a0_data : (List (Int × Int))) (a1_n : Int) : Option ((List (Int × Int))) :=
  (slices_stableCmpFunc_zone_occurrence_l0_x N a1_n (20 : Int) (0 : Int) (20 : Int) a0_data).bind fun q0 =>
  (slices_insertionSortCmpFunc_zone_occurrence_x N q0.2.2.2 q0.2.2.1 q0.1).bind fun r27 =>
  (slices_stableCmpFunc_zone_occurrence_l2_x N q0.1 q0.2.1 r27).bind fun q2 =>
  some q2

theorem slices_stableCmpFunc_zone_occurrence_le (N : Nat) (a0_data : (List (Int × Int))) (a1_n : Int) : OLe (slices_stableCmpFunc_zone_occurrence_x N a0_data a1_n) (slices_stableCmpFunc_zone_occurrence a0_data a1_n) := by
  unfold slices_stableCmpFunc_zone_occurrence_x slices_stableCmpFunc_zone_occurrence
  repeat' (first | with_reducible exact OLe.refl _ | with_reducible exact OLe.none _ | (with_reducible exact slices_stableCmpFunc_zone_occurrence_l0_le N _ _ _ _ _) | (with_reducible exact slices_insertionSortCmpFunc_zone_occurrence_le N _ _ _) | (with_reducible exact slices_stableCmpFunc_zone_occurrence_l2_le N _ _ _) | (with_reducible apply OLe.cond) | (with_reducible apply OLe.sumC) | (with_reducible refine OLe.bind ?_ ?_) | intro _)

def slices_SortStableFunc_zone_occurrence_zone_occurrence_x (N : Nat) (a0_x : (List (Int × Int))) : Option ((List (Int × Int))) :=
  let t6 : Int := (Int.ofNat (List.length a0_x))
  (slices_stableCmpFunc_zone_occurrence_x N a0_x t6).bind fun r8 =>
  some r8

theorem slices_SortStableFunc_zone_occurrence_zone_occurrence_le (N : Nat) (a0_x : (List (Int × Int))) : OLe (slices_SortStableFunc_zone_occurrence_zone_occurrence_x N a0_x) (slices_SortStableFunc_zone_occurrence_zone_occurrence a0_x) := by
  unfold slices_SortStableFunc_zone_occurrence_zone_occurrence_x slices_SortStableFunc_zone_occurrence_zone_occurrence
  repeat' (first | with_reducible exact OLe.refl _ | with_reducible exact OLe.none _ | (with_reducible exact slices_stableCmpFunc_zone_occurrence_le N _ _) | (with_reducible apply OLe.cond) | (with_reducible apply OLe.sumC) | (with_reducible refine OLe.bind ?_ ?_) | intro _)

def zone_occurrences_l0_x (N : Nat) (s4 : Int) (s23 : (List (Int × (Int × (Int × (Int × (Int × (Int × Int)))))))) (s24 : Int) (s25 : Int) (b1 : ByteArray) (b1_1 : Int) (b1_2 : (List (Int × (Int × (Int × (Int × (Int × (Int × Int)))))))) : Option (Int ⊕ (Int × ByteArray × Int × (List (Int × (Int × (Int × (Int × (Int × (Int × Int))))))))) :=
  loopN (fun h : Int × (List (Int × (Int × (Int × (Int × (Int × (Int × Int))))))) × Int × Int × ByteArray × Int × (List (Int × (Int × (Int × (Int × (Int × (Int × Int))))))) => zone_occurrences_l0_step h.1 h.2.1 h.2.2.1 h.2.2.2.1 h.2.2.2.2.1 h.2.2.2.2.2.1 h.2.2.2.2.2.2) N (s4, s23, s24, s25, b1, b1_1, b1_2)

theorem zone_occurrences_l0_le (N : Nat) (s4 : Int) (s23 : (List (Int × (Int × (Int × (Int × (Int × (Int × Int)))))))) (s24 : Int) (s25 : Int) (b1 : ByteArray) (b1_1 : Int) (b1_2 : (List (Int × (Int × (Int × (Int × (Int × (Int × Int)))))))) : OLe (zone_occurrences_l0_x N s4 s23 s24 s25 b1 b1_1 b1_2) (zone_occurrences_l0 s4 s23 s24 s25 b1 b1_1 b1_2) := OLe.loop N _ fun h => OLe.refl _

def zone_occurrences_l4_step_x (N : Nat) (s11 : Int) (s46 : (List (Int × (Int × (Int × (Int × (Int × (Int × Int)))))))) (s47 : Int) (s48 : Int) (b10 : Int) (b10_1 : Int) (b10_2 : Int) (b10_3 : Int) (b10_4 : Int) (b10_5 : Int) (b10_6 : Int) (l8 : (List (Int × Int))) : Option ((Int × (List (Int × (Int × (Int × (Int × (Int × (Int × Int))))))) × Int × Int × Int × Int × Int × Int × Int × Int × Int × (List (Int × Int))) ⊕ (((List (Int × (Int × (Int × (Int × (Int × (Int × Int))))))) × Int × Int × (List (Int × Int))))) :=
  cond (decide (s11 ≤ b10_1)) (
  (civil_Nth_x N s11 b10_2 b10_3 b10_4).bind fun r68_4 =>
  let t73_4 : Int := (w64 (r68_4.1 * (86400 : Int)))
  let t76_4 : Int := (w64 (t73_4 + b10_5))
  let t80_4 : (List (Int × Int)) := [(t76_4, b10_6)]
  cond (decide (List.length l8 + List.length t80_4 ≤ sizeMax)) (
  let t81_4 : (List (Int × Int)) := (l8 ++ t80_4)
  let t59_4 : Int := (w64 (s11 + (1 : Int)))
  some (.inl (t59_4, s46, s47, s48, b10, b10_1, b10_2, b10_3, b10_4, b10_5, b10_6, t81_4))) none) (
  some (.inr (s46, s47, s48, l8)))

theorem zone_occurrences_l4_step_le (N : Nat) (s11 : Int) (s46 : (List (Int × (Int × (Int × (Int × (Int × (Int × Int)))))))) (s47 : Int) (s48 : Int) (b10 : Int) (b10_1 : Int) (b10_2 : Int) (b10_3 : Int) (b10_4 : Int) (b10_5 : Int) (b10_6 : Int) (l8 : (List (Int × Int))) : OLe (zone_occurrences_l4_step_x N s11 s46 s47 s48 b10 b10_1 b10_2 b10_3 b10_4 b10_5 b10_6 l8) (zone_occurrences_l4_step s11 s46 s47 s48 b10 b10_1 b10_2 b10_3 b10_4 b10_5 b10_6 l8) := by
  unfold zone_occurrences_l4_step_x zone_occurrences_l4_step
  repeat' (first | with_reducible exact OLe.refl _ | with_reducible exact OLe.none _ | (with_reducible exact civil_Nth_le N _ _ _ _) | (with_reducible apply OLe.cond) | (with_reducible apply OLe.sumC) | (with_reducible refine OLe.bind ?_ ?_) | intro _)

def zone_occurrences_l4_x (N : Nat) (s11 : Int) (s46 : (List (Int × (Int × (Int × (Int × (Int × (Int × Int)))))))) (s47 : Int) (s48 : Int) (b10 : Int) (b10_1 : Int) (b10_2 : Int) (b10_3 : Int) (b10_4 : Int) (b10_5 : Int) (b10_6 : Int) (l8 : (List (Int × Int))) : Option (((List (Int × (Int × (Int × (Int × (Int × (Int × Int))))))) × Int × Int × (List (Int × Int)))) :=
  loopN (fun h : Int × (List (Int × (Int × (Int × (Int × (Int × (Int × Int))))))) × Int × Int × Int × Int × Int × Int × Int × Int × Int × (List (Int × Int)) => zone_occurrences_l4_step_x N h.1 h.2.1 h.2.2.1 h.2.2.2.1 h.2.2.2.2.1 h.2.2.2.2.2.1 h.2.2.2.2.2.2.1 h.2.2.2.2.2.2.2.1 h.2.2.2.2.2.2.2.2.1 h.2.2.2.2.2.2.2.2.2.1 h.2.2.2.2.2.2.2.2.2.2.1 h.2.2.2.2.2.2.2.2.2.2.2) N (s11, s46, s47, s48, b10, b10_1, b10_2, b10_3, b10_4, b10_5, b10_6, l8)

theorem zone_occurrences_l4_le (N : Nat) (s11 : Int) (s46 : (List (Int × (Int × (Int × (Int × (Int × (Int × Int)))))))) (s47 : Int) (s48 : Int) (b10 : Int) (b10_1 : Int) (b10_2 : Int) (b10_3 : Int) (b10_4 : Int) (b10_5 : Int) (b10_6 : Int) (l8 : (List (Int × Int))) : OLe (zone_occurrences_l4_x N s11 s46 s47 s48 b10 b10_1 b10_2 b10_3 b10_4 b10_5 b10_6 l8) (zone_occurrences_l4 s11 s46 s47 s48 b10 b10_1 b10_2 b10_3 b10_4 b10_5 b10_6 l8) := OLe.loop N _ fun h => zone_occurrences_l4_step_le N _ _ _ _ _ _ _ _ _ _ _ _

def zone_occurrences_l2_step_x (N : Nat) (s46 : (List (Int × (Int × (Int × (Int × (Int × (Int × Int)))))))) (s47 : Int) (s48 : Int) (l8 : (List (Int × Int))) : Option (((List (Int × (Int × (Int × (Int × (Int × (Int × Int))))))) × Int × Int × (List (Int × Int))) ⊕ ((List (Int × Int)))) :=
  cond (decide (s48 < s47)) (
  cond (inR s48 (List.length s46)) (
  let t50_2 : (Int × (Int × (Int × (Int × (Int × (Int × Int)))))) := (List.getD s46 (Int.toNat s48) ((0 : Int), ((0 : Int), ((0 : Int), ((0 : Int), ((0 : Int), ((0 : Int), (0 : Int))))))))
  (zone_occurrences_l4_x N t50_2.1 s46 s47 s48 t50_2.1 t50_2.2.1 t50_2.2.2.1 t50_2.2.2.2.1 t50_2.2.2.2.2.1 t50_2.2.2.2.2.2.1 t50_2.2.2.2.2.2.2 l8).bind fun q4_2 =>
  let t82_2 : Int := (w64 (q4_2.2.2.1 + (1 : Int)))
  some (.inl (q4_2.1, q4_2.2.1, t82_2, q4_2.2.2.2))) none) (
  some (.inr l8))

theorem zone_occurrences_l2_step_le (N : Nat) (s46 : (List (Int × (Int × (Int × (Int × (Int × (Int × Int)))))))) (s47 : Int) (s48 : Int) (l8 : (List (Int × Int))) : OLe (zone_occurrences_l2_step_x N s46 s47 s48 l8) (zone_occurrences_l2_step s46 s47 s48 l8) := by
  unfold zone_occurrences_l2_step_x zone_occurrences_l2_step
  repeat' (first | with_reducible exact OLe.refl _ | with_reducible exact OLe.none _ | (with_reducible exact zone_occurrences_l4_le N _ _ _ _ _ _ _ _ _ _ _ _) | (with_reducible apply OLe.cond) | (with_reducible apply OLe.sumC) | (with_reducible refine OLe.bind ?_ ?_) | intro _)

def zone_occurrences_l2_x (N : Nat) (s46 : (List (Int × (Int × (Int × (Int × (Int × (Int × Int)))))))) (s47 : Int) (s48 : Int) (l8 : (List (Int × Int))) : Option ((List (Int × Int))) :=
  loopN (fun h : (List (Int × (Int × (Int × (Int × (Int × (Int × Int))))))) × Int × Int × (List (Int × Int)) => zone_occurrences_l2_step_x N h.1 h.2.1 h.2.2.1 h.2.2.2) N (s46, s47, s48, l8)

theorem zone_occurrences_l2_le (N : Nat) (s46 : (List (Int × (Int × (Int × (Int × (Int × (Int × Int)))))))) (s47 : Int) (s48 : Int) (l8 : (List (Int × Int))) : OLe (zone_occurrences_l2_x N s46 s47 s48 l8) (zone_occurrences_l2 s46 s47 s48 l8) := OLe.loop N _ fun h => zone_occurrences_l2_step_le N _ _ _ _

def zone_occurrences_x (N : Nat) (a0_z : (ByteArray × (Int × (List (Int × (Int × (Int × (Int × (Int × (Int × Int)))))))))) : Option ((List (Int × Int)) × Int) :=
  (zone_in a0_z.2.1 (-64800 : Int) (64800 : Int)).bind fun r16 =>
  cond (!r16) (
  some (([] : (List (Int × Int))), (1 : Int))) (
  let t20 : Int := (Int.ofNat (List.length a0_z.2.2))
  cond (decide (t20 > (16 : Int))) (
  some (([] : (List (Int × Int))), (5 : Int))) (
  let t24 : Int := (Int.ofNat (List.length a0_z.2.2))
  (zone_occurrences_l0_x N (0 : Int) a0_z.2.2 t24 (0 : Int) a0_z.1 a0_z.2.1 a0_z.2.2).bind fun q0 =>
  sumC q0 (fun a =>
  some (([] : (List (Int × Int))), a)) (fun b =>
  cond (decide (b.1 > (640 : Int))) (
  some (([] : (List (Int × Int))), (5 : Int))) (
  let t47 : Int := (Int.ofNat (List.length b.2.2.2))
  (zone_occurrences_l2_x N b.2.2.2 t47 (0 : Int) ([] : (List (Int × Int)))).bind fun q2 =>
  (slices_SortStableFunc_zone_occurrence_zone_occurrence_x N q2).bind fun r84 =>
  some (r84, (0 : Int))))))

theorem zone_occurrences_le (N : Nat) (a0_z : (ByteArray × (Int × (List (Int × (Int × (Int × (Int × (Int × (Int × Int)))))))))) : OLe (zone_occurrences_x N a0_z) (zone_occurrences a0_z) := by
  unfold zone_occurrences_x zone_occurrences
  repeat' (first | with_reducible exact OLe.refl _ | with_reducible exact OLe.none _ | (with_reducible exact zone_occurrences_l0_le N _ _ _ _ _ _ _) | (with_reducible exact zone_occurrences_l2_le N _ _ _ _) | (with_reducible exact slices_SortStableFunc_zone_occurrence_zone_occurrence_le N _) | (with_reducible apply OLe.cond) | (with_reducible apply OLe.sumC) | (with_reducible refine OLe.bind ?_ ?_) | intro _)

def zone_Transitions_l0_x (N : Nat) (s7 : Int) (s23 : Int) (s24 : Int) (l6 : (List (Int × Int))) (l22 : (List (Int × Int))) : Option (Int ⊕ (List (Int × Int))) :=
  loopN (fun h : Int × Int × Int × (List (Int × Int)) × (List (Int × Int)) => zone_Transitions_l0_step h.1 h.2.1 h.2.2.1 h.2.2.2.1 h.2.2.2.2) N (s7, s23, s24, l6, l22)

theorem zone_Transitions_l0_le (N : Nat) (s7 : Int) (s23 : Int) (s24 : Int) (l6 : (List (Int × Int))) (l22 : (List (Int × Int))) : OLe (zone_Transitions_l0_x N s7 s23 s24 l6 l22) (zone_Transitions_l0 s7 s23 s24 l6 l22) := OLe.loop N _ fun h => OLe.refl _

def zone_Transitions_x (N : Nat) (a0_z : (ByteArray × (Int × (List (Int × (Int × (Int × (Int × (Int × (Int × Int)))))))))) : Option ((List (Int × Int)) × Int) :=
  (zone_occurrences_x N (a0_z.1, (a0_z.2.1, a0_z.2.2))).bind fun r14 =>
  cond (r14.2 != (0 : Int)) (
  some (([] : (List (Int × Int))), r14.2)) (
  let t23 : Int := (Int.ofNat (List.length r14.1))
  (zone_Transitions_l0_x N a0_z.2.1 t23 (0 : Int) ([] : (List (Int × Int))) r14.1).bind fun q0 =>
  sumC q0 (fun a =>
  some (([] : (List (Int × Int))), a)) (fun b =>
  some (b, (0 : Int))))

theorem zone_Transitions_le (N : Nat) (a0_z : (ByteArray × (Int × (List (Int × (Int × (Int × (Int × (Int × (Int × Int)))))))))) : OLe (zone_Transitions_x N a0_z) (zone_Transitions a0_z) := by
  unfold zone_Transitions_x zone_Transitions
  repeat' (first | with_reducible exact OLe.refl _ | with_reducible exact OLe.none _ | (with_reducible exact zone_occurrences_le N _) | (with_reducible exact zone_Transitions_l0_le N _ _ _ _ _) | (with_reducible apply OLe.cond) | (with_reducible apply OLe.sumC) | (with_reducible refine OLe.bind ?_ ?_) | intro _)

def zone_Of_x (N : Nat) (a0_z : (ByteArray × (Int × (List (Int × (Int × (Int × (Int × (Int × (Int × Int)))))))))) : Option ((Int × (List (Int × Int))) × Int) :=
  (zone_Transitions_x N (a0_z.1, (a0_z.2.1, a0_z.2.2))).bind fun r8 =>
  some ((a0_z.2.1, r8.1), r8.2)

theorem zone_Of_le (N : Nat) (a0_z : (ByteArray × (Int × (List (Int × (Int × (Int × (Int × (Int × (Int × Int)))))))))) : OLe (zone_Of_x N a0_z) (zone_Of a0_z) := by
  unfold zone_Of_x zone_Of
  repeat' (first | with_reducible exact OLe.refl _ | with_reducible exact OLe.none _ | (with_reducible exact zone_Transitions_le N _) | (with_reducible apply OLe.cond) | (with_reducible apply OLe.sumC) | (with_reducible refine OLe.bind ?_ ?_) | intro _)

def sort_Search_l0_x (N : Nat) (s1 : Int) (s1_1 : (List (Int × Int))) (s1_2 : Int) (s5 : Int) (s6 : Int) : Option (Int) :=
  loopN (fun h : Int × (List (Int × Int)) × Int × Int × Int => sort_Search_l0_step h.1 h.2.1 h.2.2.1 h.2.2.2.1 h.2.2.2.2) N (s1, s1_1, s1_2, s5, s6)

theorem sort_Search_l0_le (N : Nat) (s1 : Int) (s1_1 : (List (Int × Int))) (s1_2 : Int) (s5 : Int) (s6 : Int) : OLe (sort_Search_l0_x N s1 s1_1 s1_2 s5 s6) (sort_Search_l0 s1 s1_1 s1_2 s5 s6) := OLe.loop N _ fun h => OLe.refl _

def sort_Search_x (N : Nat) (a0_n : Int) (a1_f : Int) (a1_f_1 : (List (Int × Int))) (a1_f_2 : Int) : Option (Int) :=
  (sort_Search_l0_x N a1_f a1_f_1 a1_f_2 (0 : Int) a0_n).bind fun q0 =>
  some q0

theorem sort_Search_le (N : Nat) (a0_n : Int) (a1_f : Int) (a1_f_1 : (List (Int × Int))) (a1_f_2 : Int) : OLe (sort_Search_x N a0_n a1_f a1_f_1 a1_f_2) (sort_Search a0_n a1_f a1_f_1 a1_f_2) := by
  unfold sort_Search_x sort_Search
  repeat' (first | with_reducible exact OLe.refl _ | with_reducible exact OLe.none _ | (with_reducible exact sort_Search_l0_le N _ _ _ _ _) | (with_reducible apply OLe.cond) | (with_reducible apply OLe.sumC) | (with_reducible refine OLe.bind ?_ ?_) | intro _)

def zone_Table_after_x (N : Nat) (a0_b : (Int × (List (Int × Int)))) (a1_t : Int) : Option (Int) :=
  let t7 : Int := (Int.ofNat (List.length a0_b.2))
  (sort_Search_x N t7 a0_b.1 a0_b.2 a1_t).bind fun r9 =>
  some r9

theorem zone_Table_after_le (N : Nat) (a0_b : (Int × (List (Int × Int)))) (a1_t : Int) : OLe (zone_Table_after_x N a0_b a1_t) (zone_Table_after a0_b a1_t) := by
  unfold zone_Table_after_x zone_Table_after
  repeat' (first | with_reducible exact OLe.refl _ | with_reducible exact OLe.none _ | (with_reducible exact sort_Search_le N _ _ _ _) | (with_reducible apply OLe.cond) | (with_reducible apply OLe.sumC) | (with_reducible refine OLe.bind ?_ ?_) | intro _)

def zone_Table_Pieces_l0_step_x (N : Nat) (s1 : Int) (s2 : Int) (b3 : Int) (b3_1 : (List (Int × Int))) (l7 : (List (Int × (Int × Int)))) : Option ((Int × Int × Int × (List (Int × Int)) × (List (Int × (Int × Int)))) ⊕ ((List (Int × (Int × Int))))) :=
  cond (decide (s1 < s2)) (
  (zone_Table_after_x N (b3, b3_1) s1).bind fun r15_2 =>
  let t20_2 : Int := (Int.ofNat (List.length b3_1))
  cond (decide (r15_2 < t20_2)) (
  cond (inR r15_2 (List.length b3_1)) (
  let t26_2 : (Int × Int) := (List.getD b3_1 (Int.toNat r15_2) ((0 : Int), (0 : Int)))
  let t29_2 : Int := (if t26_2.1 < s2 then t26_2.1 else s2 : Int)
  (zone_Table_before (b3, b3_1) r15_2).bind fun r35_4 =>
  let t37_4 : (List (Int × (Int × Int))) := [(s1, (t29_2, r35_4))]
  cond (decide (List.length l7 + List.length t37_4 ≤ sizeMax)) (
  let t38_4 : (List (Int × (Int × Int))) := (l7 ++ t37_4)
  some (.inl (t29_2, s2, b3, b3_1, t38_4))) none) none) (
  (zone_Table_before (b3, b3_1) r15_2).bind fun r35_5 =>
  let t37_5 : (List (Int × (Int × Int))) := [(s1, (s2, r35_5))]
  cond (decide (List.length l7 + List.length t37_5 ≤ sizeMax)) (
  let t38_5 : (List (Int × (Int × Int))) := (l7 ++ t37_5)
  some (.inl (s2, s2, b3, b3_1, t38_5))) none)) (
  some (.inr l7))

theorem zone_Table_Pieces_l0_step_le (N : Nat) (s1 : Int) (s2 : Int) (b3 : Int) (b3_1 : (List (Int × Int))) (l7 : (List (Int × (Int × Int)))) : OLe (zone_Table_Pieces_l0_step_x N s1 s2 b3 b3_1 l7) (zone_Table_Pieces_l0_step s1 s2 b3 b3_1 l7) := by
  unfold zone_Table_Pieces_l0_step_x zone_Table_Pieces_l0_step
  repeat' (first | with_reducible exact OLe.refl _ | with_reducible exact OLe.none _ | (with_reducible exact zone_Table_after_le N _ _) | (with_reducible apply OLe.cond) | (with_reducible apply OLe.sumC) | (with_reducible refine OLe.bind ?_ ?_) | intro _)

def zone_Table_Pieces_l0_x (N : Nat) (s1 : Int) (s2 : Int) (b3 : Int) (b3_1 : (List (Int × Int))) (l7 : (List (Int × (Int × Int)))) : Option ((List (Int × (Int × Int)))) :=
  loopN (fun h : Int × Int × Int × (List (Int × Int)) × (List (Int × (Int × Int))) => zone_Table_Pieces_l0_step_x N h.1 h.2.1 h.2.2.1 h.2.2.2.1 h.2.2.2.2) N (s1, s2, b3, b3_1, l7)

theorem zone_Table_Pieces_l0_le (N : Nat) (s1 : Int) (s2 : Int) (b3 : Int) (b3_1 : (List (Int × Int))) (l7 : (List (Int × (Int × Int)))) : OLe (zone_Table_Pieces_l0_x N s1 s2 b3 b3_1 l7) (zone_Table_Pieces_l0 s1 s2 b3 b3_1 l7) := OLe.loop N _ fun h => zone_Table_Pieces_l0_step_le N _ _ _ _ _

def zone_Table_Pieces_x (N : Nat) (a0_b : (Int × (List (Int × Int)))) (a1_from : Int) (a2_to : Int) : Option ((List (Int × (Int × Int)))) :=
  (zone_Table_Pieces_l0_x N a1_from a2_to a0_b.1 a0_b.2 ([] : (List (Int × (Int × Int))))).bind fun q0 =>
  some q0

theorem zone_Table_Pieces_le (N : Nat) (a0_b : (Int × (List (Int × Int)))) (a1_from : Int) (a2_to : Int) : OLe (zone_Table_Pieces_x N a0_b a1_from a2_to) (zone_Table_Pieces a0_b a1_from a2_to) := by
  unfold zone_Table_Pieces_x zone_Table_Pieces
  repeat' (first | with_reducible exact OLe.refl _ | with_reducible exact OLe.none _ | (with_reducible exact zone_Table_Pieces_l0_le N _ _ _ _ _) | (with_reducible apply OLe.cond) | (with_reducible apply OLe.sumC) | (with_reducible refine OLe.bind ?_ ?_) | intro _)

def zone_Table_First_l0_x (N : Nat) (s11 : Int) (s12 : Int) (b3 : Int) (b3_1 : Int) (l10 : (List (Int × (Int × Int)))) : Option ((Int × Bool) ⊕ Unit) :=
  loopN (fun h : Int × Int × Int × Int × (List (Int × (Int × Int))) => zone_Table_First_l0_step h.1 h.2.1 h.2.2.1 h.2.2.2.1 h.2.2.2.2) N (s11, s12, b3, b3_1, l10)

theorem zone_Table_First_l0_le (N : Nat) (s11 : Int) (s12 : Int) (b3 : Int) (b3_1 : Int) (l10 : (List (Int × (Int × Int)))) : OLe (zone_Table_First_l0_x N s11 s12 b3 b3_1 l10) (zone_Table_First_l0 s11 s12 b3 b3_1 l10) := OLe.loop N _ fun h => OLe.refl _

def zone_Table_First_x (N : Nat) (a0_b : (Int × (List (Int × Int)))) (a1_l : (Int × Int)) : Option (Int × Bool) :=
  (zone_Table_Pieces_x N (a0_b.1, a0_b.2) (0 : Int) (8589934593 : Int)).bind fun r10 =>
  let t11 : Int := (Int.ofNat (List.length r10))
  (zone_Table_First_l0_x N t11 (0 : Int) a1_l.1 a1_l.2 r10).bind fun q0 =>
  sumC q0 (fun a =>
  some (a.1, a.2)) (fun b =>
  some ((0 : Int), false))

theorem zone_Table_First_le (N : Nat) (a0_b : (Int × (List (Int × Int)))) (a1_l : (Int × Int)) : OLe (zone_Table_First_x N a0_b a1_l) (zone_Table_First a0_b a1_l) := by
  unfold zone_Table_First_x zone_Table_First
  repeat' (first | with_reducible exact OLe.refl _ | with_reducible exact OLe.none _ | (with_reducible exact zone_Table_Pieces_le N _ _ _) | (with_reducible exact zone_Table_First_l0_le N _ _ _ _ _) | (with_reducible apply OLe.cond) | (with_reducible apply OLe.sumC) | (with_reducible refine OLe.bind ?_ ?_) | intro _)

def zone_Table_Offset_x (N : Nat) (a0_b : (Int × (List (Int × Int)))) (a1_t : Int) : Option (Int) :=
  (zone_Table_after_x N (a0_b.1, a0_b.2) a1_t).bind fun r8 =>
  (zone_Table_before (a0_b.1, a0_b.2) r8).bind fun r9 =>
  some r9

theorem zone_Table_Offset_le (N : Nat) (a0_b : (Int × (List (Int × Int)))) (a1_t : Int) : OLe (zone_Table_Offset_x N a0_b a1_t) (zone_Table_Offset a0_b a1_t) := by
  unfold zone_Table_Offset_x zone_Table_Offset
  repeat' (first | with_reducible exact OLe.refl _ | with_reducible exact OLe.none _ | (with_reducible exact zone_Table_after_le N _ _) | (with_reducible apply OLe.cond) | (with_reducible apply OLe.sumC) | (with_reducible refine OLe.bind ?_ ?_) | intro _)

def zone_Table_Local_x (N : Nat) (a0_b : (Int × (List (Int × Int)))) (a1_t : Int) : Option ((Int × Int)) :=
  (zone_Table_Offset_x N (a0_b.1, a0_b.2) a1_t).bind fun r8 =>
  let t9 : Int := (w64 (a1_t + r8))
  (zone_local t9).bind fun r10 =>
  some (r10.1, r10.2)

theorem zone_Table_Local_le (N : Nat) (a0_b : (Int × (List (Int × Int)))) (a1_t : Int) : OLe (zone_Table_Local_x N a0_b a1_t) (zone_Table_Local a0_b a1_t) := by
  unfold zone_Table_Local_x zone_Table_Local
  repeat' (first | with_reducible exact OLe.refl _ | with_reducible exact OLe.none _ | (with_reducible exact zone_Table_Offset_le N _ _) | (with_reducible apply OLe.cond) | (with_reducible apply OLe.sumC) | (with_reducible refine OLe.bind ?_ ?_) | intro _)

def recur_open_x (N : Nat) (a0_z : (ByteArray × (Int × (List (Int × (Int × (Int × (Int × (Int × (Int × Int)))))))))) (a1_l : (ByteArray × (Int × ((Int × Int) × (Int × (Int × ((List Int) × ((List (Int × Int)) × (Int × Int))))))))) : Option ((Int × (List (Int × Int))) × Bool) :=
  (zone_Of_x N (a0_z.1, (a0_z.2.1, a0_z.2.2))).bind fun r10 =>
  cond (r10.2 == (0 : Int)) (
  (recur_right (a1_l.1, (a1_l.2.1, ((a1_l.2.2.1.1, a1_l.2.2.1.2), (a1_l.2.2.2.1, (a1_l.2.2.2.2.1, (a1_l.2.2.2.2.2.1, (a1_l.2.2.2.2.2.2.1, (a1_l.2.2.2.2.2.2.2.1, a1_l.2.2.2.2.2.2.2.2))))))))).bind fun r18 =>
  some ((r10.1.1, r10.1.2), r18)) (
  some ((r10.1.1, r10.1.2), false))

theorem recur_open_le (N : Nat) (a0_z : (ByteArray × (Int × (List (Int × (Int × (Int × (Int × (Int × (Int × Int)))))))))) (a1_l : (ByteArray × (Int × ((Int × Int) × (Int × (Int × ((List Int) × ((List (Int × Int)) × (Int × Int))))))))) : OLe (recur_open_x N a0_z a1_l) (recur_open a0_z a1_l) := by
  unfold recur_open_x recur_open
  repeat' (first | with_reducible exact OLe.refl _ | with_reducible exact OLe.none _ | (with_reducible exact zone_Of_le N _) | (with_reducible apply OLe.cond) | (with_reducible apply OLe.sumC) | (with_reducible refine OLe.bind ?_ ?_) | intro _)

def recur_HandoverOf_x (N : Nat) (a0_b : (Int × (List (Int × Int)))) (a1_l : (ByteArray × (Int × ((Int × Int) × (Int × (Int × ((List Int) × ((List (Int × Int)) × (Int × Int))))))))) (a2_k : Int) : Option (Int × Bool) :=
  cond (decide (a2_k > (8589934592 : Int))) (
  some ((0 : Int), false)) (
  cond (a1_l.2.2.2.1 != (0 : Int)) (
  (recur_step (a1_l.1, (a1_l.2.1, ((a1_l.2.2.1.1, a1_l.2.2.1.2), (a1_l.2.2.2.1, (a1_l.2.2.2.2.1, (a1_l.2.2.2.2.2.1, (a1_l.2.2.2.2.2.2.1, (a1_l.2.2.2.2.2.2.2.1, a1_l.2.2.2.2.2.2.2.2))))))))).bind fun r22 =>
  let t23 : Int := (w64 (a2_k * r22))
  let t24 : Int := (w64 (a1_l.2.2.1.1 + t23))
  (zone_Table_First_x N (a0_b.1, a0_b.2) (t24, a1_l.2.2.1.2)).bind fun r28 =>
  some (r28.1, r28.2)) (
  (zone_Table_First_x N (a0_b.1, a0_b.2) (a1_l.2.2.1.1, a1_l.2.2.1.2)).bind fun r34 =>
  let t40 : Int := (w64 ((3600 : Int) * a1_l.2.2.2.2.1))
  let t42 : Int := (w64 (t40 * a2_k))
  let t43 : Int := (w64 (r34.1 + t42))
  some (t43, (cond r34.2 (decide (t43 ≤ (8589934592 : Int))) false))))

theorem recur_HandoverOf_le (N : Nat) (a0_b : (Int × (List (Int × Int)))) (a1_l : (ByteArray × (Int × ((Int × Int) × (Int × (Int × ((List Int) × ((List (Int × Int)) × (Int × Int))))))))) (a2_k : Int) : OLe (recur_HandoverOf_x N a0_b a1_l a2_k) (recur_HandoverOf a0_b a1_l a2_k) := by
  unfold recur_HandoverOf_x recur_HandoverOf
  repeat' (first | with_reducible exact OLe.refl _ | with_reducible exact OLe.none _ | (with_reducible exact zone_Table_First_le N _ _) | (with_reducible apply OLe.cond) | (with_reducible apply OLe.sumC) | (with_reducible refine OLe.bind ?_ ?_) | intro _)

def recur_ShiftOf_l0_step_x (N : Nat) (s2 : Int) (s9 : Int) (b3 : Int) (b3_1 : (List (Int × Int))) (b4 : ByteArray) (b4_1 : Int) (b4_2 : Int) (b4_3 : Int) (b4_4 : Int) (b4_5 : Int) (b4_6 : (List Int)) (b4_7 : (List (Int × Int))) (b4_8 : Int) (b4_9 : Int) : Option ((Int × Int × Int × (List (Int × Int)) × ByteArray × Int × Int × Int × Int × Int × (List Int) × (List (Int × Int)) × Int × Int) ⊕ ((Int × Int × Int × (List (Int × Int)) × ByteArray × Int × Int × Int × Int × Int × (List Int) × (List (Int × Int)) × Int × Int))) :=
  cond (decide (s9 > (0 : Int))) (
  (recur_HandoverOf_x N (b3, b3_1) (b4, (b4_1, ((b4_2, b4_3), (b4_4, (b4_5, (b4_6, (b4_7, (b4_8, b4_9)))))))) s9).bind fun r55_1 =>
  cond (cond r55_1.2 (decide (r55_1.1 ≤ s2)) false) (
  some (.inr (s2, s9, b3, b3_1, b4, b4_1, b4_2, b4_3, b4_4, b4_5, b4_6, b4_7, b4_8, b4_9))) (
  let t65_1 : Int := (w64 (s9 - (1 : Int)))
  some (.inl (s2, t65_1, b3, b3_1, b4, b4_1, b4_2, b4_3, b4_4, b4_5, b4_6, b4_7, b4_8, b4_9)))) (
  some (.inr (s2, s9, b3, b3_1, b4, b4_1, b4_2, b4_3, b4_4, b4_5, b4_6, b4_7, b4_8, b4_9)))

theorem recur_ShiftOf_l0_step_le (N : Nat) (s2 : Int) (s9 : Int) (b3 : Int) (b3_1 : (List (Int × Int))) (b4 : ByteArray) (b4_1 : Int) (b4_2 : Int) (b4_3 : Int) (b4_4 : Int) (b4_5 : Int) (b4_6 : (List Int)) (b4_7 : (List (Int × Int))) (b4_8 : Int) (b4_9 : Int) : OLe (recur_ShiftOf_l0_step_x N s2 s9 b3 b3_1 b4 b4_1 b4_2 b4_3 b4_4 b4_5 b4_6 b4_7 b4_8 b4_9) (recur_ShiftOf_l0_step s2 s9 b3 b3_1 b4 b4_1 b4_2 b4_3 b4_4 b4_5 b4_6 b4_7 b4_8 b4_9) := by
  unfold recur_ShiftOf_l0_step_x recur_ShiftOf_l0_step
  repeat' (first | with_reducible exact OLe.refl _ | with_reducible exact OLe.none _ | (with_reducible exact recur_HandoverOf_le N _ _ _) | (with_reducible apply OLe.cond) | (with_reducible apply OLe.sumC) | (with_reducible refine OLe.bind ?_ ?_) | intro _)

def recur_ShiftOf_l0_x (N : Nat) (s2 : Int) (s9 : Int) (b3 : Int) (b3_1 : (List (Int × Int))) (b4 : ByteArray) (b4_1 : Int) (b4_2 : Int) (b4_3 : Int) (b4_4 : Int) (b4_5 : Int) (b4_6 : (List Int)) (b4_7 : (List (Int × Int))) (b4_8 : Int) (b4_9 : Int) : Option ((Int × Int × Int × (List (Int × Int)) × ByteArray × Int × Int × Int × Int × Int × (List Int) × (List (Int × Int)) × Int × Int)) :=
  loopN (fun h : Int × Int × Int × (List (Int × Int)) × ByteArray × Int × Int × Int × Int × Int × (List Int) × (List (Int × Int)) × Int × Int => recur_ShiftOf_l0_step_x N h.1 h.2.1 h.2.2.1 h.2.2.2.1 h.2.2.2.2.1 h.2.2.2.2.2.1 h.2.2.2.2.2.2.1 h.2.2.2.2.2.2.2.1 h.2.2.2.2.2.2.2.2.1 h.2.2.2.2.2.2.2.2.2.1 h.2.2.2.2.2.2.2.2.2.2.1 h.2.2.2.2.2.2.2.2.2.2.2.1 h.2.2.2.2.2.2.2.2.2.2.2.2.1 h.2.2.2.2.2.2.2.2.2.2.2.2.2) N (s2, s9, b3, b3_1, b4, b4_1, b4_2, b4_3, b4_4, b4_5, b4_6, b4_7, b4_8, b4_9)

theorem recur_ShiftOf_l0_le (N : Nat) (s2 : Int) (s9 : Int) (b3 : Int) (b3_1 : (List (Int × Int))) (b4 : ByteArray) (b4_1 : Int) (b4_2 : Int) (b4_3 : Int) (b4_4 : Int) (b4_5 : Int) (b4_6 : (List Int)) (b4_7 : (List (Int × Int))) (b4_8 : Int) (b4_9 : Int) : OLe (recur_ShiftOf_l0_x N s2 s9 b3 b3_1 b4 b4_1 b4_2 b4_3 b4_4 b4_5 b4_6 b4_7 b4_8 b4_9) (recur_ShiftOf_l0 s2 s9 b3 b3_1 b4 b4_1 b4_2 b4_3 b4_4 b4_5 b4_6 b4_7 b4_8 b4_9) := OLe.loop N _ fun h => recur_ShiftOf_l0_step_le N _ _ _ _ _ _ _ _ _ _ _ _ _ _

def recur_ShiftOf_l2_step_x (N : Nat) (s2 : Int) (s9 : Int) (b3 : Int) (b3_1 : (List (Int × Int))) (b4 : ByteArray) (b4_1 : Int) (b4_2 : Int) (b4_3 : Int) (b4_4 : Int) (b4_5 : Int) (b4_6 : (List Int)) (b4_7 : (List (Int × Int))) (b4_8 : Int) (b4_9 : Int) : Option ((Int × Int × Int × (List (Int × Int)) × ByteArray × Int × Int × Int × Int × Int × (List Int) × (List (Int × Int)) × Int × Int) ⊕ (Int)) :=
  let t70_1 : Int := (w64 (s9 + (1 : Int)))
  (recur_HandoverOf_x N (b3, b3_1) (b4, (b4_1, ((b4_2, b4_3), (b4_4, (b4_5, (b4_6, (b4_7, (b4_8, b4_9)))))))) t70_1).bind fun r71_1 =>
  cond (cond (!r71_1.2) true (decide (r71_1.1 > s2))) (
  some (.inr s9)) (
  let t83_1 : Int := (w64 (s9 + (1 : Int)))
  some (.inl (s2, t83_1, b3, b3_1, b4, b4_1, b4_2, b4_3, b4_4, b4_5, b4_6, b4_7, b4_8, b4_9)))

theorem recur_ShiftOf_l2_step_le (N : Nat) (s2 : Int) (s9 : Int) (b3 : Int) (b3_1 : (List (Int × Int))) (b4 : ByteArray) (b4_1 : Int) (b4_2 : Int) (b4_3 : Int) (b4_4 : Int) (b4_5 : Int) (b4_6 : (List Int)) (b4_7 : (List (Int × Int))) (b4_8 : Int) (b4_9 : Int) : OLe (recur_ShiftOf_l2_step_x N s2 s9 b3 b3_1 b4 b4_1 b4_2 b4_3 b4_4 b4_5 b4_6 b4_7 b4_8 b4_9) (recur_ShiftOf_l2_step s2 s9 b3 b3_1 b4 b4_1 b4_2 b4_3 b4_4 b4_5 b4_6 b4_7 b4_8 b4_9) := by
  unfold recur_ShiftOf_l2_step_x recur_ShiftOf_l2_step
  repeat' (first | with_reducible exact OLe.refl _ | with_reducible exact OLe.none _ | (with_reducible exact recur_HandoverOf_le N _ _ _) | (with_reducible apply OLe.cond) | (with_reducible apply OLe.sumC) | (with_reducible refine OLe.bind ?_ ?_) | intro _)

def recur_ShiftOf_l2_x (N : Nat) (s2 : Int) (s9 : Int) (b3 : Int) (b3_1 : (List (Int × Int))) (b4 : ByteArray) (b4_1 : Int) (b4_2 : Int) (b4_3 : Int) (b4_4 : Int) (b4_5 : Int) (b4_6 : (List Int)) (b4_7 : (List (Int × Int))) (b4_8 : Int) (b4_9 : Int) : Option (Int) :=
  loopN (fun h : Int × Int × Int × (List (Int × Int)) × ByteArray × Int × Int × Int × Int × Int × (List Int) × (List (Int × Int)) × Int × Int => recur_ShiftOf_l2_step_x N h.1 h.2.1 h.2.2.1 h.2.2.2.1 h.2.2.2.2.1 h.2.2.2.2.2.1 h.2.2.2.2.2.2.1 h.2.2.2.2.2.2.2.1 h.2.2.2.2.2.2.2.2.1 h.2.2.2.2.2.2.2.2.2.1 h.2.2.2.2.2.2.2.2.2.2.1 h.2.2.2.2.2.2.2.2.2.2.2.1 h.2.2.2.2.2.2.2.2.2.2.2.2.1 h.2.2.2.2.2.2.2.2.2.2.2.2.2) N (s2, s9, b3, b3_1, b4, b4_1, b4_2, b4_3, b4_4, b4_5, b4_6, b4_7, b4_8, b4_9)

theorem recur_ShiftOf_l2_le (N : Nat) (s2 : Int) (s9 : Int) (b3 : Int) (b3_1 : (List (Int × Int))) (b4 : ByteArray) (b4_1 : Int) (b4_2 : Int) (b4_3 : Int) (b4_4 : Int) (b4_5 : Int) (b4_6 : (List Int)) (b4_7 : (List (Int × Int))) (b4_8 : Int) (b4_9 : Int) : OLe (recur_ShiftOf_l2_x N s2 s9 b3 b3_1 b4 b4_1 b4_2 b4_3 b4_4 b4_5 b4_6 b4_7 b4_8 b4_9) (recur_ShiftOf_l2 s2 s9 b3 b3_1 b4 b4_1 b4_2 b4_3 b4_4 b4_5 b4_6 b4_7 b4_8 b4_9) := OLe.loop N _ fun h => recur_ShiftOf_l2_step_le N _ _ _ _ _ _ _ _ _ _ _ _ _ _

def recur_ShiftOf_x (N : Nat) (a0_b : (Int × (List (Int × Int)))) (a1_l : (ByteArray × (Int × ((Int × Int) × (Int × (Int × ((List Int) × ((List (Int × Int)) × (Int × Int))))))))) (a2_t : Int) : Option (Int) :=
  (recur_HandoverOf_x N (a0_b.1, a0_b.2) (a1_l.1, (a1_l.2.1, ((a1_l.2.2.1.1, a1_l.2.2.1.2), (a1_l.2.2.2.1, (a1_l.2.2.2.2.1, (a1_l.2.2.2.2.2.1, (a1_l.2.2.2.2.2.2.1, (a1_l.2.2.2.2.2.2.2.1, a1_l.2.2.2.2.2.2.2.2)))))))) (0 : Int)).bind fun r17 =>
  cond (cond (!r17.2) true (decide (r17.1 > a2_t))) (
  some (-1 : Int)) (
  cond (a1_l.2.2.2.1 == (0 : Int)) (
  let t32 : Int := (w64 (a2_t - r17.1))
  let t35 : Int := (w64 ((3600 : Int) * a1_l.2.2.2.2.1))
  cond (!(t35 == 0)) (
  let t36 : Int := (w64 (Int.tdiv t32 t35))
  some t36) none) (
  (zone_Table_Local_x N (a0_b.1, a0_b.2) a2_t).bind fun r39 =>
  let t44 : Int := (w64 (r39.1 - a1_l.2.2.1.1))
  (recur_step (a1_l.1, (a1_l.2.1, ((a1_l.2.2.1.1, a1_l.2.2.1.2), (a1_l.2.2.2.1, (a1_l.2.2.2.2.1, (a1_l.2.2.2.2.2.1, (a1_l.2.2.2.2.2.2.1, (a1_l.2.2.2.2.2.2.2.1, a1_l.2.2.2.2.2.2.2.2))))))))).bind fun r46 =>
  cond (!(r46 == 0)) (
  let t47 : Int := (w64 (Int.tdiv t44 r46))
  let t48 : Int := (if t47 > (0 : Int) then t47 else (0 : Int) : Int)
  (recur_ShiftOf_l0_x N a2_t t48 a0_b.1 a0_b.2 a1_l.1 a1_l.2.1 a1_l.2.2.1.1 a1_l.2.2.1.2 a1_l.2.2.2.1 a1_l.2.2.2.2.1 a1_l.2.2.2.2.2.1 a1_l.2.2.2.2.2.2.1 a1_l.2.2.2.2.2.2.2.1 a1_l.2.2.2.2.2.2.2.2).bind fun q0 =>
  (recur_ShiftOf_l2_x N q0.1 q0.2.1 q0.2.2.1 q0.2.2.2.1 q0.2.2.2.2.1 q0.2.2.2.2.2.1 q0.2.2.2.2.2.2.1 q0.2.2.2.2.2.2.2.1 q0.2.2.2.2.2.2.2.2.1 q0.2.2.2.2.2.2.2.2.2.1 q0.2.2.2.2.2.2.2.2.2.2.1 q0.2.2.2.2.2.2.2.2.2.2.2.1 q0.2.2.2.2.2.2.2.2.2.2.2.2.1 q0.2.2.2.2.2.2.2.2.2.2.2.2.2).bind fun q2 =>
  some q2) none))

theorem recur_ShiftOf_le (N : Nat) (a0_b : (Int × (List (Int × Int)))) (a1_l : (ByteArray × (Int × ((Int × Int) × (Int × (Int × ((List Int) × ((List (Int × Int)) × (Int × Int))))))))) (a2_t : Int) : OLe (recur_ShiftOf_x N a0_b a1_l a2_t) (recur_ShiftOf a0_b a1_l a2_t) := by
  unfold recur_ShiftOf_x recur_ShiftOf
  repeat' (first | with_reducible exact OLe.refl _ | with_reducible exact OLe.none _ | (with_reducible exact recur_HandoverOf_le N _ _ _) | (with_reducible exact zone_Table_Local_le N _ _) | (with_reducible exact recur_ShiftOf_l0_le N _ _ _ _ _ _ _ _ _ _ _ _ _ _) | (with_reducible exact recur_ShiftOf_l2_le N _ _ _ _ _ _ _ _ _ _ _ _ _ _) | (with_reducible apply OLe.cond) | (with_reducible apply OLe.sumC) | (with_reducible refine OLe.bind ?_ ?_) | intro _)

def recur_HandoversOf_l0_step_x (N : Nat) (s2 : Int) (s3 : Int) (s10 : Int) (b4 : Int) (b4_1 : (List (Int × Int))) (b5 : ByteArray) (b5_1 : Int) (b5_2 : Int) (b5_3 : Int) (b5_4 : Int) (b5_5 : Int) (b5_6 : (List Int)) (b5_7 : (List (Int × Int))) (b5_8 : Int) (b5_9 : Int) (l9 : (List Int)) : Option ((Int × Int × Int × Int × (List (Int × Int)) × ByteArray × Int × Int × Int × Int × Int × (List Int) × (List (Int × Int)) × Int × Int × (List Int)) ⊕ ((List Int))) :=
  (recur_HandoverOf_x N (b4, b4_1) (b5, (b5_1, ((b5_2, b5_3), (b5_4, (b5_5, (b5_6, (b5_7, (b5_8, b5_9)))))))) s10).bind fun r24_2 =>
  cond (cond (!r24_2.2) true (decide (r24_2.1 ≥ s3))) (
  some (.inr l9)) (
  cond (decide (r24_2.1 ≥ s2)) (
  cond (decide (List.length l9 + List.length [r24_2.1] ≤ sizeMax)) (
  let t41_2 : (List Int) := (l9 ++ [r24_2.1])
  let t19_4 : Int := (w64 (s10 + (1 : Int)))
  some (.inl (s2, s3, t19_4, b4, b4_1, b5, b5_1, b5_2, b5_3, b5_4, b5_5, b5_6, b5_7, b5_8, b5_9, t41_2))) none) (
  let t19_5 : Int := (w64 (s10 + (1 : Int)))
  some (.inl (s2, s3, t19_5, b4, b4_1, b5, b5_1, b5_2, b5_3, b5_4, b5_5, b5_6, b5_7, b5_8, b5_9, l9))))

theorem recur_HandoversOf_l0_step_le (N : Nat) (s2 : Int) (s3 : Int) (s10 : Int) (b4 : Int) (b4_1 : (List (Int × Int))) (b5 : ByteArray) (b5_1 : Int) (b5_2 : Int) (b5_3 : Int) (b5_4 : Int) (b5_5 : Int) (b5_6 : (List Int)) (b5_7 : (List (Int × Int))) (b5_8 : Int) (b5_9 : Int) (l9 : (List Int)) : OLe (recur_HandoversOf_l0_step_x N s2 s3 s10 b4 b4_1 b5 b5_1 b5_2 b5_3 b5_4 b5_5 b5_6 b5_7 b5_8 b5_9 l9) (recur_HandoversOf_l0_step s2 s3 s10 b4 b4_1 b5 b5_1 b5_2 b5_3 b5_4 b5_5 b5_6 b5_7 b5_8 b5_9 l9) := by
  unfold recur_HandoversOf_l0_step_x recur_HandoversOf_l0_step
  repeat' (first | with_reducible exact OLe.refl _ | with_reducible exact OLe.none _ | (with_reducible exact recur_HandoverOf_le N _ _ _) | (with_reducible apply OLe.cond) | (with_reducible apply OLe.sumC) | (with_reducible refine OLe.bind ?_ ?_) | intro _)

def recur_HandoversOf_l0_x (N : Nat) (s2 : Int) (s3 : Int) (s10 : Int) (b4 : Int) (b4_1 : (List (Int × Int))) (b5 : ByteArray) (b5_1 : Int) (b5_2 : Int) (b5_3 : Int) (b5_4 : Int) (b5_5 : Int) (b5_6 : (List Int)) (b5_7 : (List (Int × Int))) (b5_8 : Int) (b5_9 : Int) (l9 : (List Int)) : Option ((List Int)) :=
  loopN (fun h : Int × Int × Int × Int × (List (Int × Int)) × ByteArray × Int × Int × Int × Int × Int × (List Int) × (List (Int × Int)) × Int × Int × (List Int) => recur_HandoversOf_l0_step_x N h.1 h.2.1 h.2.2.1 h.2.2.2.1 h.2.2.2.2.1 h.2.2.2.2.2.1 h.2.2.2.2.2.2.1 h.2.2.2.2.2.2.2.1 h.2.2.2.2.2.2.2.2.1 h.2.2.2.2.2.2.2.2.2.1 h.2.2.2.2.2.2.2.2.2.2.1 h.2.2.2.2.2.2.2.2.2.2.2.1 h.2.2.2.2.2.2.2.2.2.2.2.2.1 h.2.2.2.2.2.2.2.2.2.2.2.2.2.1 h.2.2.2.2.2.2.2.2.2.2.2.2.2.2.1 h.2.2.2.2.2.2.2.2.2.2.2.2.2.2.2) N (s2, s3, s10, b4, b4_1, b5, b5_1, b5_2, b5_3, b5_4, b5_5, b5_6, b5_7, b5_8, b5_9, l9)

theorem recur_HandoversOf_l0_le (N : Nat) (s2 : Int) (s3 : Int) (s10 : Int) (b4 : Int) (b4_1 : (List (Int × Int))) (b5 : ByteArray) (b5_1 : Int) (b5_2 : Int) (b5_3 : Int) (b5_4 : Int) (b5_5 : Int) (b5_6 : (List Int)) (b5_7 : (List (Int × Int))) (b5_8 : Int) (b5_9 : Int) (l9 : (List Int)) : OLe (recur_HandoversOf_l0_x N s2 s3 s10 b4 b4_1 b5 b5_1 b5_2 b5_3 b5_4 b5_5 b5_6 b5_7 b5_8 b5_9 l9) (recur_HandoversOf_l0 s2 s3 s10 b4 b4_1 b5 b5_1 b5_2 b5_3 b5_4 b5_5 b5_6 b5_7 b5_8 b5_9 l9) := OLe.loop N _ fun h => recur_HandoversOf_l0_step_le N _ _ _ _ _ _ _ _ _ _ _ _ _ _ _ _

def recur_HandoversOf_x (N : Nat) (a0_b : (Int × (List (Int × Int)))) (a1_l : (ByteArray × (Int × ((Int × Int) × (Int × (Int × ((List Int) × ((List (Int × Int)) × (Int × Int))))))))) (a2_from : Int) (a3_to : Int) : Option ((List Int)) :=
  (recur_ShiftOf_x N (a0_b.1, a0_b.2) (a1_l.1, (a1_l.2.1, ((a1_l.2.2.1.1, a1_l.2.2.1.2), (a1_l.2.2.2.1, (a1_l.2.2.2.2.1, (a1_l.2.2.2.2.2.1, (a1_l.2.2.2.2.2.2.1, (a1_l.2.2.2.2.2.2.2.1, a1_l.2.2.2.2.2.2.2.2)))))))) a2_from).bind fun r16 =>
  let t17 : Int := (if r16 > (0 : Int) then r16 else (0 : Int) : Int)
  (recur_HandoversOf_l0_x N a2_from a3_to t17 a0_b.1 a0_b.2 a1_l.1 a1_l.2.1 a1_l.2.2.1.1 a1_l.2.2.1.2 a1_l.2.2.2.1 a1_l.2.2.2.2.1 a1_l.2.2.2.2.2.1 a1_l.2.2.2.2.2.2.1 a1_l.2.2.2.2.2.2.2.1 a1_l.2.2.2.2.2.2.2.2 ([] : (List Int))).bind fun q0 =>
  some q0

theorem recur_HandoversOf_le (N : Nat) (a0_b : (Int × (List (Int × Int)))) (a1_l : (ByteArray × (Int × ((Int × Int) × (Int × (Int × ((List Int) × ((List (Int × Int)) × (Int × Int))))))))) (a2_from : Int) (a3_to : Int) : OLe (recur_HandoversOf_x N a0_b a1_l a2_from a3_to) (recur_HandoversOf a0_b a1_l a2_from a3_to) := by
  unfold recur_HandoversOf_x recur_HandoversOf
  repeat' (first | with_reducible exact OLe.refl _ | with_reducible exact OLe.none _ | (with_reducible exact recur_ShiftOf_le N _ _ _) | (with_reducible exact recur_HandoversOf_l0_le N _ _ _ _ _ _ _ _ _ _ _ _ _ _ _ _) | (with_reducible apply OLe.cond) | (with_reducible apply OLe.sumC) | (with_reducible refine OLe.bind ?_ ?_) | intro _)

def recur_Handovers_x (N : Nat) (a0_z : (ByteArray × (Int × (List (Int × (Int × (Int × (Int × (Int × (Int × Int)))))))))) (a1_l : (ByteArray × (Int × ((Int × Int) × (Int × (Int × ((List Int) × ((List (Int × Int)) × (Int × Int))))))))) (a2_from : Int) (a3_to : Int) : Option ((List Int) × Int) :=
  (recur_open_x N (a0_z.1, (a0_z.2.1, a0_z.2.2)) (a1_l.1, (a1_l.2.1, ((a1_l.2.2.1.1, a1_l.2.2.1.2), (a1_l.2.2.2.1, (a1_l.2.2.2.2.1, (a1_l.2.2.2.2.2.1, (a1_l.2.2.2.2.2.2.1, (a1_l.2.2.2.2.2.2.2.1, a1_l.2.2.2.2.2.2.2.2))))))))).bind fun r15 =>
  cond (!r15.2) (
  some (([] : (List Int)), (8 : Int))) (
  (recur_in a2_from (0 : Int) (8589934592 : Int)).bind fun r23 =>
  cond (!r23) (
  let t34 : Int := (w64 (a3_to - a2_from))
  some (([] : (List Int)), (1 : Int))) (
  (recur_in a3_to a2_from (8589934592 : Int)).bind fun r28 =>
  let t34_1 : Int := (w64 (a3_to - a2_from))
  cond (cond (!r28) true (decide (t34_1 > (34560000 : Int)))) (
  some (([] : (List Int)), (1 : Int))) (
  (recur_HandoversOf_x N (r15.1.1, r15.1.2) (a1_l.1, (a1_l.2.1, ((a1_l.2.2.1.1, a1_l.2.2.1.2), (a1_l.2.2.2.1, (a1_l.2.2.2.2.1, (a1_l.2.2.2.2.2.1, (a1_l.2.2.2.2.2.2.1, (a1_l.2.2.2.2.2.2.2.1, a1_l.2.2.2.2.2.2.2.2)))))))) a2_from a3_to).bind fun r41 =>
  some (r41, (0 : Int)))))

theorem recur_Handovers_le (N : Nat) (a0_z : (ByteArray × (Int × (List (Int × (Int × (Int × (Int × (Int × (Int × Int)))))))))) (a1_l : (ByteArray × (Int × ((Int × Int) × (Int × (Int × ((List Int) × ((List (Int × Int)) × (Int × Int))))))))) (a2_from : Int) (a3_to : Int) : OLe (recur_Handovers_x N a0_z a1_l a2_from a3_to) (recur_Handovers a0_z a1_l a2_from a3_to) := by
  unfold recur_Handovers_x recur_Handovers
  repeat' (first | with_reducible exact OLe.refl _ | with_reducible exact OLe.none _ | (with_reducible exact recur_open_le N _ _) | (with_reducible exact recur_HandoversOf_le N _ _ _ _) | (with_reducible apply OLe.cond) | (with_reducible apply OLe.sumC) | (with_reducible refine OLe.bind ?_ ?_) | intro _)

def recur_Shift_x (N : Nat) (a0_z : (ByteArray × (Int × (List (Int × (Int × (Int × (Int × (Int × (Int × Int)))))))))) (a1_l : (ByteArray × (Int × ((Int × Int) × (Int × (Int × ((List Int) × ((List (Int × Int)) × (Int × Int))))))))) (a2_t : Int) : Option (Int × Int) :=
  (recur_open_x N (a0_z.1, (a0_z.2.1, a0_z.2.2)) (a1_l.1, (a1_l.2.1, ((a1_l.2.2.1.1, a1_l.2.2.1.2), (a1_l.2.2.2.1, (a1_l.2.2.2.2.1, (a1_l.2.2.2.2.2.1, (a1_l.2.2.2.2.2.2.1, (a1_l.2.2.2.2.2.2.2.1, a1_l.2.2.2.2.2.2.2.2))))))))).bind fun r13 =>
  cond (!r13.2) (
  some ((0 : Int), (8 : Int))) (
  (recur_in a2_t (0 : Int) (8589934592 : Int)).bind fun r21 =>
  cond (!r21) (
  some ((0 : Int), (1 : Int))) (
  (recur_ShiftOf_x N (r13.1.1, r13.1.2) (a1_l.1, (a1_l.2.1, ((a1_l.2.2.1.1, a1_l.2.2.1.2), (a1_l.2.2.2.1, (a1_l.2.2.2.2.1, (a1_l.2.2.2.2.2.1, (a1_l.2.2.2.2.2.2.1, (a1_l.2.2.2.2.2.2.2.1, a1_l.2.2.2.2.2.2.2.2)))))))) a2_t).bind fun r26 =>
  some (r26, (0 : Int))))

theorem recur_Shift_le (N : Nat) (a0_z : (ByteArray × (Int × (List (Int × (Int × (Int × (Int × (Int × (Int × Int)))))))))) (a1_l : (ByteArray × (Int × ((Int × Int) × (Int × (Int × ((List Int) × ((List (Int × Int)) × (Int × Int))))))))) (a2_t : Int) : OLe (recur_Shift_x N a0_z a1_l a2_t) (recur_Shift a0_z a1_l a2_t) := by
  unfold recur_Shift_x recur_Shift
  repeat' (first | with_reducible exact OLe.refl _ | with_reducible exact OLe.none _ | (with_reducible exact recur_open_le N _ _) | (with_reducible exact recur_ShiftOf_le N _ _ _) | (with_reducible apply OLe.cond) | (with_reducible apply OLe.sumC) | (with_reducible refine OLe.bind ?_ ?_) | intro _)

def recur_Turn_x (N : Nat) (a0_z : (ByteArray × (Int × (List (Int × (Int × (Int × (Int × (Int × (Int × Int)))))))))) (a1_l : (ByteArray × (Int × ((Int × Int) × (Int × (Int × ((List Int) × ((List (Int × Int)) × (Int × Int))))))))) (a2_t : Int) : Option (Int × Int) :=
  (recur_Shift_x N (a0_z.1, (a0_z.2.1, a0_z.2.2)) (a1_l.1, (a1_l.2.1, ((a1_l.2.2.1.1, a1_l.2.2.1.2), (a1_l.2.2.2.1, (a1_l.2.2.2.2.1, (a1_l.2.2.2.2.2.1, (a1_l.2.2.2.2.2.2.1, (a1_l.2.2.2.2.2.2.2.1, a1_l.2.2.2.2.2.2.2.2)))))))) a2_t).bind fun r14 =>
  cond (cond (r14.2 != (0 : Int)) true (decide (r14.1 < (0 : Int)))) (
  some (r14.1, r14.2)) (
  let t28 : Int := (Int.ofNat (List.length a1_l.2.2.2.2.2.1))
  cond (!(t28 == 0)) (
  let t29 : Int := (Int.tmod r14.1 t28)
  some (t29, (0 : Int))) none)

theorem recur_Turn_le (N : Nat) (a0_z : (ByteArray × (Int × (List (Int × (Int × (Int × (Int × (Int × (Int × Int)))))))))) (a1_l : (ByteArray × (Int × ((Int × Int) × (Int × (Int × ((List Int) × ((List (Int × Int)) × (Int × Int))))))))) (a2_t : Int) : OLe (recur_Turn_x N a0_z a1_l a2_t) (recur_Turn a0_z a1_l a2_t) := by
  unfold recur_Turn_x recur_Turn
  repeat' (first | with_reducible exact OLe.refl _ | with_reducible exact OLe.none _ | (with_reducible exact recur_Shift_le N _ _ _) | (with_reducible apply OLe.cond) | (with_reducible apply OLe.sumC) | (with_reducible refine OLe.bind ?_ ?_) | intro _)

def recur_Handover_x (N : Nat) (a0_z : (ByteArray × (Int × (List (Int × (Int × (Int × (Int × (Int × (Int × Int)))))))))) (a1_l : (ByteArray × (Int × ((Int × Int) × (Int × (Int × ((List Int) × ((List (Int × Int)) × (Int × Int))))))))) (a2_k : Int) : Option (Int × Int) :=
  (recur_open_x N (a0_z.1, (a0_z.2.1, a0_z.2.2)) (a1_l.1, (a1_l.2.1, ((a1_l.2.2.1.1, a1_l.2.2.1.2), (a1_l.2.2.2.1, (a1_l.2.2.2.2.1, (a1_l.2.2.2.2.2.1, (a1_l.2.2.2.2.2.2.1, (a1_l.2.2.2.2.2.2.2.1, a1_l.2.2.2.2.2.2.2.2))))))))).bind fun r14 =>
  cond (!r14.2) (
  some ((0 : Int), (8 : Int))) (
  cond (decide (a2_k < (0 : Int))) (
  some ((0 : Int), (1 : Int))) (
  (recur_HandoverOf_x N (r14.1.1, r14.1.2) (a1_l.1, (a1_l.2.1, ((a1_l.2.2.1.1, a1_l.2.2.1.2), (a1_l.2.2.2.1, (a1_l.2.2.2.2.1, (a1_l.2.2.2.2.2.1, (a1_l.2.2.2.2.2.2.1, (a1_l.2.2.2.2.2.2.2.1, a1_l.2.2.2.2.2.2.2.2)))))))) a2_k).bind fun r27 =>
  cond (!r27.2) (
  some ((0 : Int), (10 : Int))) (
  some (r27.1, (0 : Int)))))

theorem recur_Handover_le (N : Nat) (a0_z : (ByteArray × (Int × (List (Int × (Int × (Int × (Int × (Int × (Int × Int)))))))))) (a1_l : (ByteArray × (Int × ((Int × Int) × (Int × (Int × ((List Int) × ((List (Int × Int)) × (Int × Int))))))))) (a2_k : Int) : OLe (recur_Handover_x N a0_z a1_l a2_k) (recur_Handover a0_z a1_l a2_k) := by
  unfold recur_Handover_x recur_Handover
  repeat' (first | with_reducible exact OLe.refl _ | with_reducible exact OLe.none _ | (with_reducible exact recur_open_le N _ _) | (with_reducible exact recur_HandoverOf_le N _ _ _) | (with_reducible apply OLe.cond) | (with_reducible apply OLe.sumC) | (with_reducible refine OLe.bind ?_ ?_) | intro _)

def law10_sane_x (N : Nat)  : Option (Bool) :=
  let t13 : (List (Int × (Int × (Int × (Int × (Int × (Int × Int))))))) := [((2020 : Int), ((2030 : Int), ((3 : Int), ((5 : Int), ((6 : Int), ((7200 : Int), (7200 : Int))))))), ((2020 : Int), ((2030 : Int), ((10 : Int), ((5 : Int), ((6 : Int), ((10800 : Int), (3600 : Int)))))))]
  let t16 : (List Int) := [(7 : Int), (8 : Int)]
  (recur_Handovers_x N (ByteArray.empty, ((3600 : Int), t13)) (ByteArray.empty, ((0 : Int), (((20540 : Int), (9000 : Int)), ((1 : Int), ((1 : Int), (t16, (([] : (List (Int × Int))), ((0 : Int), (0 : Int))))))))) (1774600000 : Int) (1774900000 : Int)).bind fun r21 =>
  (recur_Shift_x N (ByteArray.empty, ((3600 : Int), t13)) (ByteArray.empty, ((0 : Int), (((20540 : Int), (9000 : Int)), ((1 : Int), ((1 : Int), (t16, (([] : (List (Int × Int))), ((0 : Int), (0 : Int))))))))) (1774746000 : Int)).bind fun r27 =>
  (recur_Turn_x N (ByteArray.empty, ((3600 : Int), t13)) (ByteArray.empty, ((0 : Int), (((20540 : Int), (9000 : Int)), ((1 : Int), ((1 : Int), (t16, (([] : (List (Int × Int))), ((0 : Int), (0 : Int))))))))) (1774746000 : Int)).bind fun r33 =>
  (recur_Handover_x N (ByteArray.empty, ((3600 : Int), t13)) (ByteArray.empty, ((0 : Int), (((20540 : Int), (9000 : Int)), ((1 : Int), ((1 : Int), (t16, (([] : (List (Int × Int))), ((0 : Int), (0 : Int))))))))) (-1 : Int)).bind fun r39 =>
  let t55 : Bool := (cond (cond (cond (r21.2 == (0 : Int)) (r27.2 == (0 : Int)) false) (r33.2 == (0 : Int)) false) (r39.2 == (1 : Int)) false)
  let t58 : Int := (Int.ofNat (List.length r21.1))
  cond ((inR (0 : Int) (List.length r21.1)) || !(cond t55 (t58 == (3 : Int)) false)) (
  let t64 : Int := (List.getD r21.1 0 (0 : Int))
  cond ((inR (1 : Int) (List.length r21.1)) || !(cond (cond t55 (t58 == (3 : Int)) false) (t64 == (1774661400 : Int)) false)) (
  let t70 : Int := (List.getD r21.1 1 (0 : Int))
  let t72 : Bool := (cond (cond (cond t55 (t58 == (3 : Int)) false) (t64 == (1774661400 : Int)) false) (t70 == (1774746000 : Int)) false)
  cond ((inR (2 : Int) (List.length r21.1)) || !t72) (
  let t76 : Int := (List.getD r21.1 2 (0 : Int))
  let t86 : Bool := (cond (cond (cond t72 (t76 == (1774830600 : Int)) false) (r27.1 == (1 : Int)) false) (r33.1 == (1 : Int)) false)
  some t86) none) none) none

theorem law10_sane_le (N : Nat)  : OLe (law10_sane_x N ) (law10_sane ) := by
  unfold law10_sane_x law10_sane
  repeat' (first | with_reducible exact OLe.refl _ | with_reducible exact OLe.none _ | (with_reducible exact recur_Handovers_le N _ _ _ _) | (with_reducible exact recur_Shift_le N _ _ _) | (with_reducible exact recur_Turn_le N _ _ _) | (with_reducible exact recur_Handover_le N _ _ _) | (with_reducible apply OLe.cond) | (with_reducible apply OLe.sumC) | (with_reducible refine OLe.bind ?_ ?_) | intro _)

end Go.Proofs.Pw

/- The examples of chapter 10. -/
open Go Go.Lft
namespace Go.Proofs.Pw
theorem sane10 : law10_sane = some true := law10_sane_le 60 true (by kernel_rfl)
end Go.Proofs.Pw
