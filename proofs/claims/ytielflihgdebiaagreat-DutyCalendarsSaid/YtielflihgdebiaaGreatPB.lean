/- Twins with a bound on their rounds, printed by a program. -/
import Derived.Test.YtielflihgdebiaaGreatFns
import Derived.Test.YtielflihgdebiaaGreatLD
open Go Go.Lft
set_option linter.unusedVariables false
set_option maxRecDepth 100000
namespace Go.Proofs.Pw
noncomputable section

def lexer_Name_l0_x (N : Nat) (s0 : ByteArray) (s19 : Int) (s20 : Int) : Option (Bool ⊕ Unit) :=
  loopN (unc3 (lexer_Name_l0_step)) N (s0, s19, s20)

theorem lexer_Name_l0_le (N : Nat) (s0 : ByteArray) (s19 : Int) (s20 : Int) : OLe (lexer_Name_l0_x N s0 s19 s20) (lexer_Name_l0 s0 s19 s20) := OLe.loop N _ fun h => OLe.refl _

def lexer_Name_x (N : Nat) (a0_s : ByteArray) : Option (Bool) :=
  let t9 : Int := (Int.ofNat (ByteArray.size a0_s))
  let t11 : Bool := (cond (ByteArray.toList a0_s == ByteArray.toList ByteArray.empty) true (decide (t9 > (24 : Int))))
  cond ((inR (0 : Int) (ByteArray.size a0_s)) || !(!t11)) (
  let t14 : Int := (strAt a0_s (0 : Int))
  cond t11 (
  some false) (
  (lexer_small t14).bind fun r15 =>
  cond (!r15) (
  some false) (
  let t19 : Int := (Int.ofNat (ByteArray.size a0_s))
  (lexer_Name_l0_x N a0_s t19 (0 : Int)).bind fun q0 =>
  sumC q0 (fun a =>
  some a) (fun b =>
  some true)))) none

theorem lexer_Name_le (N : Nat) (a0_s : ByteArray) : OLe (lexer_Name_x N a0_s) (lexer_Name a0_s) := by
  unfold lexer_Name_x lexer_Name
  with_reducible repeat' (first | exact OLe.refl _ | exact OLe.none _ | exact lexer_Name_l0_le N _ _ _ | apply OLe.cond | apply OLe.sumC | refine OLe.bind ?_ ?_ | intro _)

def resolve_name_x (N : Nat) (a0_s : ByteArray) (a1_seen : (List (ByteArray × Bool))) : Option (Int × (List (ByteArray × Bool))) :=
  (lexer_Name_x N a0_s).bind fun r6 =>
  cond (!r6) (
  some ((2 : Int), a1_seen)) (
  cond (mapGet false a1_seen a0_s) (
  some ((4 : Int), a1_seen)) (
  let m2 : (List (ByteArray × Bool)) := (mapSet a1_seen a0_s true)
  some ((0 : Int), m2)))

theorem resolve_name_le (N : Nat) (a0_s : ByteArray) (a1_seen : (List (ByteArray × Bool))) : OLe (resolve_name_x N a0_s a1_seen) (resolve_name a0_s a1_seen) := by
  unfold resolve_name_x resolve_name
  with_reducible repeat' (first | exact OLe.refl _ | exact OLe.none _ | exact lexer_Name_le N _ | apply OLe.cond | apply OLe.sumC | refine OLe.bind ?_ ?_ | intro _)

def civil_number_l0_x (N : Nat) (s3 : Int) (s4 : Int) (b1 : Int) (b1_1 : Int) (b1_2 : Int) : Option (Int) :=
  loopN (fun h : Int × Int × Int × Int × Int => civil_number_l0_step h.1 h.2.1 h.2.2.1 h.2.2.2.1 h.2.2.2.2) N (s3, s4, b1, b1_1, b1_2)

theorem civil_number_l0_le (N : Nat) (s3 : Int) (s4 : Int) (b1 : Int) (b1_1 : Int) (b1_2 : Int) : OLe (civil_number_l0_x N s3 s4 b1 b1_1 b1_2) (civil_number_l0 s3 s4 b1 b1_1 b1_2) := OLe.loop N _ fun h => OLe.refl _

def civil_number_x (N : Nat) (a0_d : Tn3) : Option (Int) :=
  (civil_count a0_d.1).bind fun r7 =>
  let t10 : Int := (w64 (r7 + a0_d.2.2))
  let t11 : Int := (w64 (t10 - (1 : Int)))
  (civil_number_l0_x N t11 (1 : Int) a0_d.1 a0_d.2.1 a0_d.2.2).bind fun q0 =>
  some q0

theorem civil_number_le (N : Nat) (a0_d : Tn3) : OLe (civil_number_x N a0_d) (civil_number a0_d) := by
  unfold civil_number_x civil_number
  with_reducible repeat' (first | exact OLe.refl _ | exact OLe.none _ | exact civil_number_l0_le N _ _ _ _ _ | apply OLe.cond | apply OLe.sumC | refine OLe.bind ?_ ?_ | intro _)

def civil_Nth_x (N : Nat) (a0_year : Int) (a1_month : Int) (a2_week : Int) (a3_weekday : Int) : Option (Int × Int) :=
  (civil_Valid (a0_year, (a1_month, (1 : Int)))).bind fun r17 =>
  let t26 : Bool := (cond (cond (!r17) true (decide (a2_week < (1 : Int)))) true (decide (a2_week > (5 : Int))))
  let t34 : Bool := (cond (cond t26 true (decide (a3_weekday < (0 : Int)))) true (decide (a3_weekday > (6 : Int))))
  cond t34 (
  some ((0 : Int), (1 : Int))) (
  (civil_number_x N (a0_year, (a1_month, (1 : Int)))).bind fun r36 =>
  (civil_Weekday r36).bind fun r40 =>
  let t41 : Int := (w64 (a3_weekday - r40))
  let t42 : Int := (w64 (t41 + (7 : Int)))
  let t43 : Int := (Int.tmod t42 (7 : Int))
  let t44 : Int := (w64 (r36 + t43))
  let t46 : Int := (w64 (a2_week - (1 : Int)))
  let t47 : Int := (w64 ((7 : Int) * t46))
  let t48 : Int := (w64 (t44 + t47))
  (civil_Days a0_year a1_month).bind fun r53 =>
  let t54 : Int := (w64 (r36 + r53))
  cond (decide (t48 ≥ t54)) (
  let t57 : Int := (w64 (t48 - (7 : Int)))
  some (t57, (0 : Int))) (
  some (t48, (0 : Int))))

theorem civil_Nth_le (N : Nat) (a0_year : Int) (a1_month : Int) (a2_week : Int) (a3_weekday : Int) : OLe (civil_Nth_x N a0_year a1_month a2_week a3_weekday) (civil_Nth a0_year a1_month a2_week a3_weekday) := by
  unfold civil_Nth_x civil_Nth
  with_reducible repeat' (first | exact OLe.refl _ | exact OLe.none _ | exact civil_number_le N _ | apply OLe.cond | apply OLe.sumC | refine OLe.bind ?_ ?_ | intro _)

def slices_insertionSortCmpFunc_zone_occurrence_l2_x (N : Nat) (s1 : Int) (s2 : Int) (s8 : Int) (s9 : Int) (b0 : Tn2) : Option ((Int × Int × Int × Tn2)) :=
  loopN (fun h : Int × Int × Int × Int × Tn2 => slices_insertionSortCmpFunc_zone_occurrence_l2_step h.1 h.2.1 h.2.2.1 h.2.2.2.1 h.2.2.2.2) N (s1, s2, s8, s9, b0)

theorem slices_insertionSortCmpFunc_zone_occurrence_l2_le (N : Nat) (s1 : Int) (s2 : Int) (s8 : Int) (s9 : Int) (b0 : Tn2) : OLe (slices_insertionSortCmpFunc_zone_occurrence_l2_x N s1 s2 s8 s9 b0) (slices_insertionSortCmpFunc_zone_occurrence_l2 s1 s2 s8 s9 b0) := OLe.loop N _ fun h => OLe.refl _

def slices_insertionSortCmpFunc_zone_occurrence_l0_step_x (N : Nat) (s1 : Int) (s2 : Int) (s8 : Int) (b0 : Tn2) : Option ((Int × Int × Int × Tn2) ⊕ (Tn2)) :=
  cond (decide (s8 < s2)) (
  (slices_insertionSortCmpFunc_zone_occurrence_l2_x N s1 s2 s8 s8 b0).bind fun q2_1 =>
  let t16_1 : Int := (w64 (q2_1.2.2.1 + (1 : Int)))
  some (.inl (q2_1.1, q2_1.2.1, t16_1, q2_1.2.2.2))) (
  some (.inr b0))

theorem slices_insertionSortCmpFunc_zone_occurrence_l0_step_le (N : Nat) (s1 : Int) (s2 : Int) (s8 : Int) (b0 : Tn2) : OLe (slices_insertionSortCmpFunc_zone_occurrence_l0_step_x N s1 s2 s8 b0) (slices_insertionSortCmpFunc_zone_occurrence_l0_step s1 s2 s8 b0) := by
  unfold slices_insertionSortCmpFunc_zone_occurrence_l0_step_x slices_insertionSortCmpFunc_zone_occurrence_l0_step
  with_reducible repeat' (first | exact OLe.refl _ | exact OLe.none _ | exact slices_insertionSortCmpFunc_zone_occurrence_l2_le N _ _ _ _ _ | apply OLe.cond | apply OLe.sumC | refine OLe.bind ?_ ?_ | intro _)

def slices_insertionSortCmpFunc_zone_occurrence_l0_x (N : Nat) (s1 : Int) (s2 : Int) (s8 : Int) (b0 : Tn2) : Option (Tn2) :=
  loopN (fun h : Int × Int × Int × Tn2 => slices_insertionSortCmpFunc_zone_occurrence_l0_step_x N h.1 h.2.1 h.2.2.1 h.2.2.2) N (s1, s2, s8, b0)

theorem slices_insertionSortCmpFunc_zone_occurrence_l0_le (N : Nat) (s1 : Int) (s2 : Int) (s8 : Int) (b0 : Tn2) : OLe (slices_insertionSortCmpFunc_zone_occurrence_l0_x N s1 s2 s8 b0) (slices_insertionSortCmpFunc_zone_occurrence_l0 s1 s2 s8 b0) := OLe.loop N _ fun h => slices_insertionSortCmpFunc_zone_occurrence_l0_step_le N _ _ _ _

def slices_insertionSortCmpFunc_zone_occurrence_x (N : Nat) (a0_data : Tn2) (a1_a : Int) (a2_b : Int) : Option (Tn2) :=
  let t11 : Int := (w64 (a1_a + (1 : Int)))
  (slices_insertionSortCmpFunc_zone_occurrence_l0_x N a1_a a2_b t11 a0_data).bind fun q0 =>
  some q0

theorem slices_insertionSortCmpFunc_zone_occurrence_le (N : Nat) (a0_data : Tn2) (a1_a : Int) (a2_b : Int) : OLe (slices_insertionSortCmpFunc_zone_occurrence_x N a0_data a1_a a2_b) (slices_insertionSortCmpFunc_zone_occurrence a0_data a1_a a2_b) := by
  unfold slices_insertionSortCmpFunc_zone_occurrence_x slices_insertionSortCmpFunc_zone_occurrence
  with_reducible repeat' (first | exact OLe.refl _ | exact OLe.none _ | exact slices_insertionSortCmpFunc_zone_occurrence_l0_le N _ _ _ _ | apply OLe.cond | apply OLe.sumC | refine OLe.bind ?_ ?_ | intro _)

def slices_swapRangeCmpFunc_zone_occurrence_l0_x (N : Nat) (s1 : Int) (s2 : Int) (s3 : Int) (s10 : Int) (b0 : Tn2) : Option (Tn2) :=
  loopN (unc5 (slices_swapRangeCmpFunc_zone_occurrence_l0_step)) N (s1, s2, s3, s10, b0)

theorem slices_swapRangeCmpFunc_zone_occurrence_l0_le (N : Nat) (s1 : Int) (s2 : Int) (s3 : Int) (s10 : Int) (b0 : Tn2) : OLe (slices_swapRangeCmpFunc_zone_occurrence_l0_x N s1 s2 s3 s10 b0) (slices_swapRangeCmpFunc_zone_occurrence_l0 s1 s2 s3 s10 b0) := OLe.loop N _ fun h => OLe.refl _

def slices_swapRangeCmpFunc_zone_occurrence_x (N : Nat) (a0_data : Tn2) (a1_a : Int) (a2_b : Int) (a3_n : Int) : Option (Tn2) :=
  (slices_swapRangeCmpFunc_zone_occurrence_l0_x N a1_a a2_b a3_n (0 : Int) a0_data).bind fun q0 =>
  some q0

theorem slices_swapRangeCmpFunc_zone_occurrence_le (N : Nat) (a0_data : Tn2) (a1_a : Int) (a2_b : Int) (a3_n : Int) : OLe (slices_swapRangeCmpFunc_zone_occurrence_x N a0_data a1_a a2_b a3_n) (slices_swapRangeCmpFunc_zone_occurrence a0_data a1_a a2_b a3_n) := by
  unfold slices_swapRangeCmpFunc_zone_occurrence_x slices_swapRangeCmpFunc_zone_occurrence
  with_reducible repeat' (first | exact OLe.refl _ | exact OLe.none _ | exact slices_swapRangeCmpFunc_zone_occurrence_l0_le N _ _ _ _ _ | apply OLe.cond | apply OLe.sumC | refine OLe.bind ?_ ?_ | intro _)

def slices_rotateCmpFunc_zone_occurrence_l0_step_x (N : Nat) (s2 : Int) (s10 : Int) (s11 : Int) (b0 : Tn2) : Option ((Int × Int × Int × Tn2) ⊕ ((Int × Int × Tn2))) :=
  cond (s10 != s11) (
  cond (decide (s10 > s11)) (
  let t27_1 : Int := (w64 (s2 - s10))
  (slices_swapRangeCmpFunc_zone_occurrence_x N b0 t27_1 s2 s11).bind fun r31_1 =>
  let t34_1 : Int := (w64 (s10 - s11))
  some (.inl (s2, t34_1, s11, r31_1))) (
  let t38_1 : Int := (w64 (s2 - s10))
  let t41_1 : Int := (w64 (s2 + s11))
  let t43_1 : Int := (w64 (t41_1 - s10))
  (slices_swapRangeCmpFunc_zone_occurrence_x N b0 t38_1 t43_1 s10).bind fun r46_1 =>
  let t49_1 : Int := (w64 (s11 - s10))
  some (.inl (s2, s10, t49_1, r46_1)))) (
  some (.inr (s2, s10, b0)))

theorem slices_rotateCmpFunc_zone_occurrence_l0_step_le (N : Nat) (s2 : Int) (s10 : Int) (s11 : Int) (b0 : Tn2) : OLe (slices_rotateCmpFunc_zone_occurrence_l0_step_x N s2 s10 s11 b0) (slices_rotateCmpFunc_zone_occurrence_l0_step s2 s10 s11 b0) := by
  unfold slices_rotateCmpFunc_zone_occurrence_l0_step_x slices_rotateCmpFunc_zone_occurrence_l0_step
  with_reducible repeat' (first | exact OLe.refl _ | exact OLe.none _ | exact slices_swapRangeCmpFunc_zone_occurrence_le N _ _ _ _ | apply OLe.cond | apply OLe.sumC | refine OLe.bind ?_ ?_ | intro _)

def slices_rotateCmpFunc_zone_occurrence_l0_x (N : Nat) (s2 : Int) (s10 : Int) (s11 : Int) (b0 : Tn2) : Option ((Int × Int × Tn2)) :=
  loopN (unc4 (slices_rotateCmpFunc_zone_occurrence_l0_step_x N)) N (s2, s10, s11, b0)

theorem slices_rotateCmpFunc_zone_occurrence_l0_le (N : Nat) (s2 : Int) (s10 : Int) (s11 : Int) (b0 : Tn2) : OLe (slices_rotateCmpFunc_zone_occurrence_l0_x N s2 s10 s11 b0) (slices_rotateCmpFunc_zone_occurrence_l0 s2 s10 s11 b0) := OLe.loop N _ fun h => slices_rotateCmpFunc_zone_occurrence_l0_step_le N _ _ _ _

def slices_rotateCmpFunc_zone_occurrence_x (N : Nat) (a0_data : Tn2) (a1_a : Int) (a2_m : Int) (a3_b : Int) : Option (Tn2) :=
  let t14 : Int := (w64 (a2_m - a1_a))
  let t17 : Int := (w64 (a3_b - a2_m))
  (slices_rotateCmpFunc_zone_occurrence_l0_x N a2_m t14 t17 a0_data).bind fun q0 =>
  let t53 : Int := (w64 (q0.1 - q0.2.1))
  (slices_swapRangeCmpFunc_zone_occurrence_x N q0.2.2 t53 q0.1 q0.2.1).bind fun r57 =>
  some r57

theorem slices_rotateCmpFunc_zone_occurrence_le (N : Nat) (a0_data : Tn2) (a1_a : Int) (a2_m : Int) (a3_b : Int) : OLe (slices_rotateCmpFunc_zone_occurrence_x N a0_data a1_a a2_m a3_b) (slices_rotateCmpFunc_zone_occurrence a0_data a1_a a2_m a3_b) := by
  unfold slices_rotateCmpFunc_zone_occurrence_x slices_rotateCmpFunc_zone_occurrence
  with_reducible repeat' (first | exact OLe.refl _ | exact OLe.none _ | exact slices_rotateCmpFunc_zone_occurrence_l0_le N _ _ _ _ | exact slices_swapRangeCmpFunc_zone_occurrence_le N _ _ _ _ | apply OLe.cond | apply OLe.sumC | refine OLe.bind ?_ ?_ | intro _)

def slices_symMergeCmpFunc_zone_occurrence_l0_x (N : Nat) (rec : Tn2 → Int → Int → Int → Option (Tn2)) (s1 : Int) (s10 : Int) (s11 : Int) (b0 : Tn2) : Option ((Int × Int × Tn2)) :=
  loopN (unc4 (slices_symMergeCmpFunc_zone_occurrence_l0_step rec)) N (s1, s10, s11, b0)

theorem slices_symMergeCmpFunc_zone_occurrence_l0_le (N : Nat) (rec rec' : Tn2 → Int → Int → Int → Option (Tn2)) (hrec : ∀ v0 v1 v2 v3, OLe (rec v0 v1 v2 v3) (rec' v0 v1 v2 v3)) (s1 : Int) (s10 : Int) (s11 : Int) (b0 : Tn2) : OLe (slices_symMergeCmpFunc_zone_occurrence_l0_x N rec s1 s10 s11 b0) (slices_symMergeCmpFunc_zone_occurrence_l0 rec' s1 s10 s11 b0) := OLe.loop N _ fun h => OLe.refl _

theorem slices_symMergeCmpFunc_zone_occurrence_l0_mono (rec rec' : Tn2 → Int → Int → Int → Option (Tn2)) (hrec : ∀ v0 v1 v2 v3, OLe (rec v0 v1 v2 v3) (rec' v0 v1 v2 v3)) (s1 : Int) (s10 : Int) (s11 : Int) (b0 : Tn2) : OLe (slices_symMergeCmpFunc_zone_occurrence_l0 rec s1 s10 s11 b0) (slices_symMergeCmpFunc_zone_occurrence_l0 rec' s1 s10 s11 b0) := OLe.loopOpt _ fun h => OLe.refl _

def slices_symMergeCmpFunc_zone_occurrence_l2_x (N : Nat) (rec : Tn2 → Int → Int → Int → Option (Tn2)) (s10 : Int) (s13 : Int) (b0 : Tn2) : Option (Tn2) :=
  loopN (unc3 (slices_symMergeCmpFunc_zone_occurrence_l2_step rec)) N (s10, s13, b0)

theorem slices_symMergeCmpFunc_zone_occurrence_l2_le (N : Nat) (rec rec' : Tn2 → Int → Int → Int → Option (Tn2)) (hrec : ∀ v0 v1 v2 v3, OLe (rec v0 v1 v2 v3) (rec' v0 v1 v2 v3)) (s10 : Int) (s13 : Int) (b0 : Tn2) : OLe (slices_symMergeCmpFunc_zone_occurrence_l2_x N rec s10 s13 b0) (slices_symMergeCmpFunc_zone_occurrence_l2 rec' s10 s13 b0) := OLe.loop N _ fun h => OLe.refl _

theorem slices_symMergeCmpFunc_zone_occurrence_l2_mono (rec rec' : Tn2 → Int → Int → Int → Option (Tn2)) (hrec : ∀ v0 v1 v2 v3, OLe (rec v0 v1 v2 v3) (rec' v0 v1 v2 v3)) (s10 : Int) (s13 : Int) (b0 : Tn2) : OLe (slices_symMergeCmpFunc_zone_occurrence_l2 rec s10 s13 b0) (slices_symMergeCmpFunc_zone_occurrence_l2 rec' s10 s13 b0) := OLe.loopOpt _ fun h => OLe.refl _

def slices_symMergeCmpFunc_zone_occurrence_l4_x (N : Nat) (rec : Tn2 → Int → Int → Int → Option (Tn2)) (s2 : Int) (s14 : Int) (s15 : Int) (b0 : Tn2) : Option ((Int × Int × Tn2)) :=
  loopN (unc4 (slices_symMergeCmpFunc_zone_occurrence_l4_step rec)) N (s2, s14, s15, b0)

theorem slices_symMergeCmpFunc_zone_occurrence_l4_le (N : Nat) (rec rec' : Tn2 → Int → Int → Int → Option (Tn2)) (hrec : ∀ v0 v1 v2 v3, OLe (rec v0 v1 v2 v3) (rec' v0 v1 v2 v3)) (s2 : Int) (s14 : Int) (s15 : Int) (b0 : Tn2) : OLe (slices_symMergeCmpFunc_zone_occurrence_l4_x N rec s2 s14 s15 b0) (slices_symMergeCmpFunc_zone_occurrence_l4 rec' s2 s14 s15 b0) := OLe.loop N _ fun h => OLe.refl _

theorem slices_symMergeCmpFunc_zone_occurrence_l4_mono (rec rec' : Tn2 → Int → Int → Int → Option (Tn2)) (hrec : ∀ v0 v1 v2 v3, OLe (rec v0 v1 v2 v3) (rec' v0 v1 v2 v3)) (s2 : Int) (s14 : Int) (s15 : Int) (b0 : Tn2) : OLe (slices_symMergeCmpFunc_zone_occurrence_l4 rec s2 s14 s15 b0) (slices_symMergeCmpFunc_zone_occurrence_l4 rec' s2 s14 s15 b0) := OLe.loopOpt _ fun h => OLe.refl _

def slices_symMergeCmpFunc_zone_occurrence_l6_x (N : Nat) (rec : Tn2 → Int → Int → Int → Option (Tn2)) (s14 : Int) (s17 : Int) (b0 : Tn2) : Option (Tn2) :=
  loopN (unc3 (slices_symMergeCmpFunc_zone_occurrence_l6_step rec)) N (s14, s17, b0)

theorem slices_symMergeCmpFunc_zone_occurrence_l6_le (N : Nat) (rec rec' : Tn2 → Int → Int → Int → Option (Tn2)) (hrec : ∀ v0 v1 v2 v3, OLe (rec v0 v1 v2 v3) (rec' v0 v1 v2 v3)) (s14 : Int) (s17 : Int) (b0 : Tn2) : OLe (slices_symMergeCmpFunc_zone_occurrence_l6_x N rec s14 s17 b0) (slices_symMergeCmpFunc_zone_occurrence_l6 rec' s14 s17 b0) := OLe.loop N _ fun h => OLe.refl _

theorem slices_symMergeCmpFunc_zone_occurrence_l6_mono (rec rec' : Tn2 → Int → Int → Int → Option (Tn2)) (hrec : ∀ v0 v1 v2 v3, OLe (rec v0 v1 v2 v3) (rec' v0 v1 v2 v3)) (s14 : Int) (s17 : Int) (b0 : Tn2) : OLe (slices_symMergeCmpFunc_zone_occurrence_l6 rec s14 s17 b0) (slices_symMergeCmpFunc_zone_occurrence_l6 rec' s14 s17 b0) := OLe.loopOpt _ fun h => OLe.refl _

def slices_symMergeCmpFunc_zone_occurrence_l8_x (N : Nat) (rec : Tn2 → Int → Int → Int → Option (Tn2)) (s1 : Int) (s2 : Int) (s3 : Int) (s18 : Int) (s19 : Int) (s20 : Int) (s21 : Int) (s22 : Int) (b0 : Tn2) : Option ((Int × Int × Int × Int × Int × Int × Tn2)) :=
  loopN (unc9 (slices_symMergeCmpFunc_zone_occurrence_l8_step rec)) N (s1, s2, s3, s18, s19, s20, s21, s22, b0)

theorem slices_symMergeCmpFunc_zone_occurrence_l8_le (N : Nat) (rec rec' : Tn2 → Int → Int → Int → Option (Tn2)) (hrec : ∀ v0 v1 v2 v3, OLe (rec v0 v1 v2 v3) (rec' v0 v1 v2 v3)) (s1 : Int) (s2 : Int) (s3 : Int) (s18 : Int) (s19 : Int) (s20 : Int) (s21 : Int) (s22 : Int) (b0 : Tn2) : OLe (slices_symMergeCmpFunc_zone_occurrence_l8_x N rec s1 s2 s3 s18 s19 s20 s21 s22 b0) (slices_symMergeCmpFunc_zone_occurrence_l8 rec' s1 s2 s3 s18 s19 s20 s21 s22 b0) := OLe.loop N _ fun h => OLe.refl _

theorem slices_symMergeCmpFunc_zone_occurrence_l8_mono (rec rec' : Tn2 → Int → Int → Int → Option (Tn2)) (hrec : ∀ v0 v1 v2 v3, OLe (rec v0 v1 v2 v3) (rec' v0 v1 v2 v3)) (s1 : Int) (s2 : Int) (s3 : Int) (s18 : Int) (s19 : Int) (s20 : Int) (s21 : Int) (s22 : Int) (b0 : Tn2) : OLe (slices_symMergeCmpFunc_zone_occurrence_l8 rec s1 s2 s3 s18 s19 s20 s21 s22 b0) (slices_symMergeCmpFunc_zone_occurrence_l8 rec' s1 s2 s3 s18 s19 s20 s21 s22 b0) := OLe.loopOpt _ fun h => OLe.refl _

def slices_symMergeCmpFunc_zone_occurrence_body_x (N : Nat) (rec : Tn2 → Int → Int → Int → Option (Tn2)) (a0_data : Tn2) (a1_a : Int) (a2_m : Int) (a3_b : Int) : Option (Tn2) :=
  let t27 : Int := (w64 (a2_m - a1_a))
  cond (t27 == (1 : Int)) (
  (slices_symMergeCmpFunc_zone_occurrence_l0_x N rec a1_a a2_m a3_b a0_data).bind fun q0 =>
  (slices_symMergeCmpFunc_zone_occurrence_l2_x N rec q0.2.1 q0.1 q0.2.2).bind fun q2 =>
  some q2) (
  let t79 : Int := (w64 (a3_b - a2_m))
  cond (t79 == (1 : Int)) (
  (slices_symMergeCmpFunc_zone_occurrence_l4_x N rec a2_m a1_a a2_m a0_data).bind fun q4 =>
  (slices_symMergeCmpFunc_zone_occurrence_l6_x N rec q4.2.1 q4.1 q4.2.2).bind fun q6 =>
  some q6) (
  let t131 : Int := (w64 (a1_a + a3_b))
  let t132 : Int := (IntKind.wrap .u64 t131)
  let t133 : Int := (Int.fdiv t132 (2 : Int))
  let t137 : Int := (w64 ((w64 t133) + a2_m))
  cond (decide (a2_m > (w64 t133))) (
  let t143 : Int := (w64 (t137 - a3_b))
  let t148 : Int := (w64 (t137 - (1 : Int)))
  (slices_symMergeCmpFunc_zone_occurrence_l8_x N rec a1_a a2_m a3_b (w64 t133) t137 t143 (w64 t133) t148 a0_data).bind fun q8 =>
  let t177 : Int := (w64 (q8.2.2.2.2.1 - q8.2.2.2.2.2.1))
  cond (cond (decide (q8.2.2.2.2.2.1 < q8.2.1)) (decide (q8.2.1 < t177)) false) (
  (slices_rotateCmpFunc_zone_occurrence_x N q8.2.2.2.2.2.2 q8.2.2.2.2.2.1 q8.2.1 t177).bind fun r191 =>
  cond (cond (decide (q8.1 < q8.2.2.2.2.2.1)) (decide (q8.2.2.2.2.2.1 < q8.2.2.2.1)) false) (
  (rec r191 q8.1 q8.2.2.2.2.2.1 q8.2.2.2.1).bind fun r205 =>
  cond (cond (decide (q8.2.2.2.1 < t177)) (decide (t177 < q8.2.2.1)) false) (
  (rec r205 q8.2.2.2.1 t177 q8.2.2.1).bind fun r219 =>
  some r219) (
  some r205)) (
  cond (cond (decide (q8.2.2.2.1 < t177)) (decide (t177 < q8.2.2.1)) false) (
  (rec r191 q8.2.2.2.1 t177 q8.2.2.1).bind fun r219_1 =>
  some r219_1) (
  some r191))) (
  cond (cond (decide (q8.1 < q8.2.2.2.2.2.1)) (decide (q8.2.2.2.2.2.1 < q8.2.2.2.1)) false) (
  (rec q8.2.2.2.2.2.2 q8.1 q8.2.2.2.2.2.1 q8.2.2.2.1).bind fun r205_1 =>
  cond (cond (decide (q8.2.2.2.1 < t177)) (decide (t177 < q8.2.2.1)) false) (
  (rec r205_1 q8.2.2.2.1 t177 q8.2.2.1).bind fun r219_2 =>
  some r219_2) (
  some r205_1)) (
  cond (cond (decide (q8.2.2.2.1 < t177)) (decide (t177 < q8.2.2.1)) false) (
  (rec q8.2.2.2.2.2.2 q8.2.2.2.1 t177 q8.2.2.1).bind fun r219_3 =>
  some r219_3) (
  some q8.2.2.2.2.2.2)))) (
  let t148_1 : Int := (w64 (t137 - (1 : Int)))
  (slices_symMergeCmpFunc_zone_occurrence_l8_x N rec a1_a a2_m a3_b (w64 t133) t137 a1_a a2_m t148_1 a0_data).bind fun q8_1 =>
  let t177_1 : Int := (w64 (q8_1.2.2.2.2.1 - q8_1.2.2.2.2.2.1))
  cond (cond (decide (q8_1.2.2.2.2.2.1 < q8_1.2.1)) (decide (q8_1.2.1 < t177_1)) false) (
  (slices_rotateCmpFunc_zone_occurrence_x N q8_1.2.2.2.2.2.2 q8_1.2.2.2.2.2.1 q8_1.2.1 t177_1).bind fun r191_1 =>
  let t199 : Bool := (cond (decide (q8_1.1 < q8_1.2.2.2.2.2.1)) (decide (q8_1.2.2.2.2.2.1 < q8_1.2.2.2.1)) false)
  cond t199 (
  (rec r191_1 q8_1.1 q8_1.2.2.2.2.2.1 q8_1.2.2.2.1).bind fun r205_2 =>
  cond (cond (decide (q8_1.2.2.2.1 < t177_1)) (decide (t177_1 < q8_1.2.2.1)) false) (
  (rec r205_2 q8_1.2.2.2.1 t177_1 q8_1.2.2.1).bind fun r219_4 =>
  some r219_4) (
  some r205_2)) (
  cond (cond (decide (q8_1.2.2.2.1 < t177_1)) (decide (t177_1 < q8_1.2.2.1)) false) (
  (rec r191_1 q8_1.2.2.2.1 t177_1 q8_1.2.2.1).bind fun r219_5 =>
  some r219_5) (
  some r191_1))) (
  let t199_1 : Bool := (cond (decide (q8_1.1 < q8_1.2.2.2.2.2.1)) (decide (q8_1.2.2.2.2.2.1 < q8_1.2.2.2.1)) false)
  cond t199_1 (
  (rec q8_1.2.2.2.2.2.2 q8_1.1 q8_1.2.2.2.2.2.1 q8_1.2.2.2.1).bind fun r205_3 =>
  cond (cond (decide (q8_1.2.2.2.1 < t177_1)) (decide (t177_1 < q8_1.2.2.1)) false) (
  (rec r205_3 q8_1.2.2.2.1 t177_1 q8_1.2.2.1).bind fun r219_6 =>
  some r219_6) (
  some r205_3)) (
  cond (cond (decide (q8_1.2.2.2.1 < t177_1)) (decide (t177_1 < q8_1.2.2.1)) false) (
  (rec q8_1.2.2.2.2.2.2 q8_1.2.2.2.1 t177_1 q8_1.2.2.1).bind fun r219_7 =>
  some r219_7) (
  some q8_1.2.2.2.2.2.2))))))

theorem slices_symMergeCmpFunc_zone_occurrence_body_le (N : Nat) (rec rec' : Tn2 → Int → Int → Int → Option (Tn2)) (hrec : ∀ v0 v1 v2 v3, OLe (rec v0 v1 v2 v3) (rec' v0 v1 v2 v3)) (a0_data : Tn2) (a1_a : Int) (a2_m : Int) (a3_b : Int) : OLe (slices_symMergeCmpFunc_zone_occurrence_body_x N rec a0_data a1_a a2_m a3_b) (slices_symMergeCmpFunc_zone_occurrence_body rec' a0_data a1_a a2_m a3_b) := by
  unfold slices_symMergeCmpFunc_zone_occurrence_body_x slices_symMergeCmpFunc_zone_occurrence_body
  with_reducible repeat' (first | exact OLe.refl _ | exact OLe.none _ | exact hrec _ _ _ _ | exact slices_symMergeCmpFunc_zone_occurrence_l0_le N _ _ hrec _ _ _ _ | exact slices_symMergeCmpFunc_zone_occurrence_l2_le N _ _ hrec _ _ _ | exact slices_symMergeCmpFunc_zone_occurrence_l4_le N _ _ hrec _ _ _ _ | exact slices_symMergeCmpFunc_zone_occurrence_l6_le N _ _ hrec _ _ _ | exact slices_symMergeCmpFunc_zone_occurrence_l8_le N _ _ hrec _ _ _ _ _ _ _ _ _ | exact slices_rotateCmpFunc_zone_occurrence_le N _ _ _ _ | apply OLe.cond | apply OLe.sumC | refine OLe.bind ?_ ?_ | intro _)

theorem slices_symMergeCmpFunc_zone_occurrence_body_mono (rec rec' : Tn2 → Int → Int → Int → Option (Tn2)) (hrec : ∀ v0 v1 v2 v3, OLe (rec v0 v1 v2 v3) (rec' v0 v1 v2 v3)) (a0_data : Tn2) (a1_a : Int) (a2_m : Int) (a3_b : Int) : OLe (slices_symMergeCmpFunc_zone_occurrence_body rec a0_data a1_a a2_m a3_b) (slices_symMergeCmpFunc_zone_occurrence_body rec' a0_data a1_a a2_m a3_b) := by
  unfold slices_symMergeCmpFunc_zone_occurrence_body
  with_reducible repeat' (first | exact OLe.refl _ | exact OLe.none _ | exact hrec _ _ _ _ | exact slices_symMergeCmpFunc_zone_occurrence_l0_mono _ _ hrec _ _ _ _ | exact slices_symMergeCmpFunc_zone_occurrence_l2_mono _ _ hrec _ _ _ | exact slices_symMergeCmpFunc_zone_occurrence_l4_mono _ _ hrec _ _ _ _ | exact slices_symMergeCmpFunc_zone_occurrence_l6_mono _ _ hrec _ _ _ | exact slices_symMergeCmpFunc_zone_occurrence_l8_mono _ _ hrec _ _ _ _ _ _ _ _ _ | apply OLe.cond | apply OLe.sumC | refine OLe.bind ?_ ?_ | intro _)

def slices_symMergeCmpFunc_zone_occurrence_rec_x (N : Nat) (g : (Tn2 × Int × Int × Int) → Option (Tn2)) (h : Tn2 × Int × Int × Int) : Option (Tn2) := slices_symMergeCmpFunc_zone_occurrence_body_x N (fun v0 v1 v2 v3 => g (v0, v1, v2, v3)) h.1 h.2.1 h.2.2.1 h.2.2.2

theorem slices_symMergeCmpFunc_zone_occurrence_rec_le (N : Nat) (g g' : (Tn2 × Int × Int × Int) → Option (Tn2)) (hg : ∀ a, OLe (g a) (g' a)) (h : Tn2 × Int × Int × Int) : OLe (slices_symMergeCmpFunc_zone_occurrence_rec_x N g h) (slices_symMergeCmpFunc_zone_occurrence_rec g' h) := slices_symMergeCmpFunc_zone_occurrence_body_le N _ _ (by intros; exact hg _) _ _ _ _

theorem slices_symMergeCmpFunc_zone_occurrence_rec_mono (g g' : (Tn2 × Int × Int × Int) → Option (Tn2)) (hg : ∀ a, OLe (g a) (g' a)) (h : Tn2 × Int × Int × Int) : OLe (slices_symMergeCmpFunc_zone_occurrence_rec g h) (slices_symMergeCmpFunc_zone_occurrence_rec g' h) := slices_symMergeCmpFunc_zone_occurrence_body_mono _ _ (by intros; exact hg _) _ _ _ _

def slices_symMergeCmpFunc_zone_occurrence_x (N : Nat) (a0_data : Tn2) (a1_a : Int) (a2_m : Int) (a3_b : Int) : Option (Tn2) := iterN (slices_symMergeCmpFunc_zone_occurrence_rec_x N) N (a0_data, a1_a, a2_m, a3_b)

theorem slices_symMergeCmpFunc_zone_occurrence_le (N : Nat) (a0_data : Tn2) (a1_a : Int) (a2_m : Int) (a3_b : Int) : OLe (slices_symMergeCmpFunc_zone_occurrence_x N a0_data a1_a a2_m a3_b) (slices_symMergeCmpFunc_zone_occurrence a0_data a1_a a2_m a3_b) := OLe.rec N _ (fun g g' hg a => slices_symMergeCmpFunc_zone_occurrence_rec_le N g g' hg a) (fun g g' hg a => slices_symMergeCmpFunc_zone_occurrence_rec_mono g g' hg a)

def slices_stableCmpFunc_zone_occurrence_l0_step_x (N : Nat) (s1 : Int) (s6 : Int) (s7 : Int) (s8 : Int) (b0 : Tn2) : Option ((Int × Int × Int × Int × Tn2) ⊕ ((Int × Int × Int × Tn2))) :=
  cond (decide (s8 ≤ s1)) (
  (slices_insertionSortCmpFunc_zone_occurrence_x N b0 s7 s8).bind fun r18_1 =>
  let t22_1 : Int := (w64 (s8 + s6))
  some (.inl (s1, s6, s8, t22_1, r18_1))) (
  some (.inr (s1, s6, s7, b0)))

theorem slices_stableCmpFunc_zone_occurrence_l0_step_le (N : Nat) (s1 : Int) (s6 : Int) (s7 : Int) (s8 : Int) (b0 : Tn2) : OLe (slices_stableCmpFunc_zone_occurrence_l0_step_x N s1 s6 s7 s8 b0) (slices_stableCmpFunc_zone_occurrence_l0_step s1 s6 s7 s8 b0) := by
  unfold slices_stableCmpFunc_zone_occurrence_l0_step_x slices_stableCmpFunc_zone_occurrence_l0_step
  with_reducible repeat' (first | exact OLe.refl _ | exact OLe.none _ | exact slices_insertionSortCmpFunc_zone_occurrence_le N _ _ _ | apply OLe.cond | apply OLe.sumC | refine OLe.bind ?_ ?_ | intro _)

def slices_stableCmpFunc_zone_occurrence_l0_x (N : Nat) (s1 : Int) (s6 : Int) (s7 : Int) (s8 : Int) (b0 : Tn2) : Option ((Int × Int × Int × Tn2)) :=
  loopN (fun h : Int × Int × Int × Int × Tn2 => slices_stableCmpFunc_zone_occurrence_l0_step_x N h.1 h.2.1 h.2.2.1 h.2.2.2.1 h.2.2.2.2) N (s1, s6, s7, s8, b0)

theorem slices_stableCmpFunc_zone_occurrence_l0_le (N : Nat) (s1 : Int) (s6 : Int) (s7 : Int) (s8 : Int) (b0 : Tn2) : OLe (slices_stableCmpFunc_zone_occurrence_l0_x N s1 s6 s7 s8 b0) (slices_stableCmpFunc_zone_occurrence_l0 s1 s6 s7 s8 b0) := OLe.loop N _ fun h => slices_stableCmpFunc_zone_occurrence_l0_step_le N _ _ _ _ _

def slices_stableCmpFunc_zone_occurrence_l4_step_x (N : Nat) (s1 : Int) (s6 : Int) (s7 : Int) (s8 : Int) (b0 : Tn2) : Option ((Int × Int × Int × Int × Tn2) ⊕ ((Int × Int × Int × Tn2))) :=
  cond (decide (s8 ≤ s1)) (
  let t40_1 : Int := (w64 (s7 + s6))
  (slices_symMergeCmpFunc_zone_occurrence_x N b0 s7 t40_1 s8).bind fun r43_1 =>
  let t47_1 : Int := (w64 ((2 : Int) * s6))
  let t48_1 : Int := (w64 (s8 + t47_1))
  some (.inl (s1, s6, s8, t48_1, r43_1))) (
  some (.inr (s1, s6, s7, b0)))

theorem slices_stableCmpFunc_zone_occurrence_l4_step_le (N : Nat) (s1 : Int) (s6 : Int) (s7 : Int) (s8 : Int) (b0 : Tn2) : OLe (slices_stableCmpFunc_zone_occurrence_l4_step_x N s1 s6 s7 s8 b0) (slices_stableCmpFunc_zone_occurrence_l4_step s1 s6 s7 s8 b0) := by
  unfold slices_stableCmpFunc_zone_occurrence_l4_step_x slices_stableCmpFunc_zone_occurrence_l4_step
  with_reducible repeat' (first | exact OLe.refl _ | exact OLe.none _ | exact slices_symMergeCmpFunc_zone_occurrence_le N _ _ _ _ | apply OLe.cond | apply OLe.sumC | refine OLe.bind ?_ ?_ | intro _)

def slices_stableCmpFunc_zone_occurrence_l4_x (N : Nat) (s1 : Int) (s6 : Int) (s7 : Int) (s8 : Int) (b0 : Tn2) : Option ((Int × Int × Int × Tn2)) :=
  loopN (unc5 (slices_stableCmpFunc_zone_occurrence_l4_step_x N)) N (s1, s6, s7, s8, b0)

theorem slices_stableCmpFunc_zone_occurrence_l4_le (N : Nat) (s1 : Int) (s6 : Int) (s7 : Int) (s8 : Int) (b0 : Tn2) : OLe (slices_stableCmpFunc_zone_occurrence_l4_x N s1 s6 s7 s8 b0) (slices_stableCmpFunc_zone_occurrence_l4 s1 s6 s7 s8 b0) := OLe.loop N _ fun h => slices_stableCmpFunc_zone_occurrence_l4_step_le N _ _ _ _ _

def slices_stableCmpFunc_zone_occurrence_l2_step_x (N : Nat) (s1 : Int) (s6 : Int) (b0 : Tn2) : Option ((Int × Int × Tn2) ⊕ (Tn2)) :=
  cond (decide (s6 < s1)) (
  let t32_1 : Int := (w64 ((2 : Int) * s6))
  (slices_stableCmpFunc_zone_occurrence_l4_x N s1 s6 (0 : Int) t32_1 b0).bind fun q4_1 =>
  let t51_1 : Int := (w64 (q4_1.2.2.1 + q4_1.2.1))
  cond (decide (t51_1 < q4_1.1)) (
  (slices_symMergeCmpFunc_zone_occurrence_x N q4_1.2.2.2 q4_1.2.2.1 t51_1 q4_1.1).bind fun r60_1 =>
  let t62_2 : Int := (w64 (q4_1.2.1 * (2 : Int)))
  some (.inl (q4_1.1, t62_2, r60_1))) (
  let t62_3 : Int := (w64 (q4_1.2.1 * (2 : Int)))
  some (.inl (q4_1.1, t62_3, q4_1.2.2.2)))) (
  some (.inr b0))

theorem slices_stableCmpFunc_zone_occurrence_l2_step_le (N : Nat) (s1 : Int) (s6 : Int) (b0 : Tn2) : OLe (slices_stableCmpFunc_zone_occurrence_l2_step_x N s1 s6 b0) (slices_stableCmpFunc_zone_occurrence_l2_step s1 s6 b0) := by
  unfold slices_stableCmpFunc_zone_occurrence_l2_step_x slices_stableCmpFunc_zone_occurrence_l2_step
  with_reducible repeat' (first | exact OLe.refl _ | exact OLe.none _ | exact slices_stableCmpFunc_zone_occurrence_l4_le N _ _ _ _ _ | exact slices_symMergeCmpFunc_zone_occurrence_le N _ _ _ _ | apply OLe.cond | apply OLe.sumC | refine OLe.bind ?_ ?_ | intro _)

def slices_stableCmpFunc_zone_occurrence_l2_x (N : Nat) (s1 : Int) (s6 : Int) (b0 : Tn2) : Option (Tn2) :=
  loopN (fun h : Int × Int × Tn2 => slices_stableCmpFunc_zone_occurrence_l2_step_x N h.1 h.2.1 h.2.2) N (s1, s6, b0)

theorem slices_stableCmpFunc_zone_occurrence_l2_le (N : Nat) (s1 : Int) (s6 : Int) (b0 : Tn2) : OLe (slices_stableCmpFunc_zone_occurrence_l2_x N s1 s6 b0) (slices_stableCmpFunc_zone_occurrence_l2 s1 s6 b0) := OLe.loop N _ fun h => slices_stableCmpFunc_zone_occurrence_l2_step_le N _ _ _

def slices_stableCmpFunc_zone_occurrence_x (N : Nat) (a0_data : Tn2) (a1_n : Int) : Option (Tn2) :=
  (slices_stableCmpFunc_zone_occurrence_l0_x N a1_n (20 : Int) (0 : Int) (20 : Int) a0_data).bind fun q0 =>
  (slices_insertionSortCmpFunc_zone_occurrence_x N q0.2.2.2 q0.2.2.1 q0.1).bind fun r27 =>
  (slices_stableCmpFunc_zone_occurrence_l2_x N q0.1 q0.2.1 r27).bind fun q2 =>
  some q2

theorem slices_stableCmpFunc_zone_occurrence_le (N : Nat) (a0_data : Tn2) (a1_n : Int) : OLe (slices_stableCmpFunc_zone_occurrence_x N a0_data a1_n) (slices_stableCmpFunc_zone_occurrence a0_data a1_n) := by
  unfold slices_stableCmpFunc_zone_occurrence_x slices_stableCmpFunc_zone_occurrence
  with_reducible repeat' (first | exact OLe.refl _ | exact OLe.none _ | exact slices_stableCmpFunc_zone_occurrence_l0_le N _ _ _ _ _ | exact slices_insertionSortCmpFunc_zone_occurrence_le N _ _ _ | exact slices_stableCmpFunc_zone_occurrence_l2_le N _ _ _ | apply OLe.cond | apply OLe.sumC | refine OLe.bind ?_ ?_ | intro _)

def slices_SortStableFunc_zone_occurrence_zone_occurrence_x (N : Nat) (a0_x : Tn2) : Option (Tn2) :=
  let t6 : Int := (Int.ofNat (List.length a0_x))
  (slices_stableCmpFunc_zone_occurrence_x N a0_x t6).bind fun r8 =>
  some r8

theorem slices_SortStableFunc_zone_occurrence_zone_occurrence_le (N : Nat) (a0_x : Tn2) : OLe (slices_SortStableFunc_zone_occurrence_zone_occurrence_x N a0_x) (slices_SortStableFunc_zone_occurrence_zone_occurrence a0_x) := by
  unfold slices_SortStableFunc_zone_occurrence_zone_occurrence_x slices_SortStableFunc_zone_occurrence_zone_occurrence
  with_reducible repeat' (first | exact OLe.refl _ | exact OLe.none _ | exact slices_stableCmpFunc_zone_occurrence_le N _ _ | apply OLe.cond | apply OLe.sumC | refine OLe.bind ?_ ?_ | intro _)

def zone_occurrences_l0_x (N : Nat) (s4 : Int) (s23 : Tn45) (s24 : Int) (s25 : Int) (b1 : ByteArray) (b1_1 : Int) (b1_2 : Tn45) : Option (Int ⊕ (Int × ByteArray × Int × Tn45)) :=
  loopN (fun h : Int × Tn45 × Int × Int × ByteArray × Int × Tn45 => zone_occurrences_l0_step h.1 h.2.1 h.2.2.1 h.2.2.2.1 h.2.2.2.2.1 h.2.2.2.2.2.1 h.2.2.2.2.2.2) N (s4, s23, s24, s25, b1, b1_1, b1_2)

theorem zone_occurrences_l0_le (N : Nat) (s4 : Int) (s23 : Tn45) (s24 : Int) (s25 : Int) (b1 : ByteArray) (b1_1 : Int) (b1_2 : Tn45) : OLe (zone_occurrences_l0_x N s4 s23 s24 s25 b1 b1_1 b1_2) (zone_occurrences_l0 s4 s23 s24 s25 b1 b1_1 b1_2) := OLe.loop N _ fun h => OLe.refl _

def zone_occurrences_l4_step_x (N : Nat) (s11 : Int) (s46 : Tn45) (s47 : Int) (s48 : Int) (b10 : Int) (b10_1 : Int) (b10_2 : Int) (b10_3 : Int) (b10_4 : Int) (b10_5 : Int) (b10_6 : Int) (l8 : Tn2) : Option ((Int × Tn45 × Int × Int × Int × Int × Int × Int × Int × Int × Int × Tn2) ⊕ ((Tn45 × Int × Int × Tn2))) :=
  cond (decide (s11 ≤ b10_1)) (
  (civil_Nth_x N s11 b10_2 b10_3 b10_4).bind fun r68_4 =>
  let t73_4 : Int := (w64 (r68_4.1 * (86400 : Int)))
  let t76_4 : Int := (w64 (t73_4 + b10_5))
  let t80_4 : Tn2 := [(t76_4, b10_6)]
  cond (decide (List.length l8 + List.length t80_4 ≤ sizeMax)) (
  let t81_4 : Tn2 := (l8 ++ t80_4)
  let t59_4 : Int := (w64 (s11 + (1 : Int)))
  some (.inl (t59_4, s46, s47, s48, b10, b10_1, b10_2, b10_3, b10_4, b10_5, b10_6, t81_4))) none) (
  some (.inr (s46, s47, s48, l8)))

theorem zone_occurrences_l4_step_le (N : Nat) (s11 : Int) (s46 : Tn45) (s47 : Int) (s48 : Int) (b10 : Int) (b10_1 : Int) (b10_2 : Int) (b10_3 : Int) (b10_4 : Int) (b10_5 : Int) (b10_6 : Int) (l8 : Tn2) : OLe (zone_occurrences_l4_step_x N s11 s46 s47 s48 b10 b10_1 b10_2 b10_3 b10_4 b10_5 b10_6 l8) (zone_occurrences_l4_step s11 s46 s47 s48 b10 b10_1 b10_2 b10_3 b10_4 b10_5 b10_6 l8) := by
  unfold zone_occurrences_l4_step_x zone_occurrences_l4_step
  with_reducible repeat' (first | exact OLe.refl _ | exact OLe.none _ | exact civil_Nth_le N _ _ _ _ | apply OLe.cond | apply OLe.sumC | refine OLe.bind ?_ ?_ | intro _)

def zone_occurrences_l4_x (N : Nat) (s11 : Int) (s46 : Tn45) (s47 : Int) (s48 : Int) (b10 : Int) (b10_1 : Int) (b10_2 : Int) (b10_3 : Int) (b10_4 : Int) (b10_5 : Int) (b10_6 : Int) (l8 : Tn2) : Option ((Tn45 × Int × Int × Tn2)) :=
  loopN (fun h : Int × Tn45 × Int × Int × Int × Int × Int × Int × Int × Int × Int × Tn2 => zone_occurrences_l4_step_x N h.1 h.2.1 h.2.2.1 h.2.2.2.1 h.2.2.2.2.1 h.2.2.2.2.2.1 h.2.2.2.2.2.2.1 h.2.2.2.2.2.2.2.1 h.2.2.2.2.2.2.2.2.1 h.2.2.2.2.2.2.2.2.2.1 h.2.2.2.2.2.2.2.2.2.2.1 h.2.2.2.2.2.2.2.2.2.2.2) N (s11, s46, s47, s48, b10, b10_1, b10_2, b10_3, b10_4, b10_5, b10_6, l8)

theorem zone_occurrences_l4_le (N : Nat) (s11 : Int) (s46 : Tn45) (s47 : Int) (s48 : Int) (b10 : Int) (b10_1 : Int) (b10_2 : Int) (b10_3 : Int) (b10_4 : Int) (b10_5 : Int) (b10_6 : Int) (l8 : Tn2) : OLe (zone_occurrences_l4_x N s11 s46 s47 s48 b10 b10_1 b10_2 b10_3 b10_4 b10_5 b10_6 l8) (zone_occurrences_l4 s11 s46 s47 s48 b10 b10_1 b10_2 b10_3 b10_4 b10_5 b10_6 l8) := OLe.loop N _ fun h => zone_occurrences_l4_step_le N _ _ _ _ _ _ _ _ _ _ _ _

def zone_occurrences_l2_step_x (N : Nat) (s46 : Tn45) (s47 : Int) (s48 : Int) (l8 : Tn2) : Option ((Tn45 × Int × Int × Tn2) ⊕ (Tn2)) :=
  cond (decide (s48 < s47)) (
  cond (inR s48 (List.length s46)) (
  let t50_2 : Tn41 := (List.getD s46 (Int.toNat s48) ((0 : Int), ((0 : Int), ((0 : Int), ((0 : Int), ((0 : Int), ((0 : Int), (0 : Int))))))))
  (zone_occurrences_l4_x N t50_2.1 s46 s47 s48 t50_2.1 t50_2.2.1 t50_2.2.2.1 t50_2.2.2.2.1 t50_2.2.2.2.2.1 t50_2.2.2.2.2.2.1 t50_2.2.2.2.2.2.2 l8).bind fun q4_2 =>
  let t82_2 : Int := (w64 (q4_2.2.2.1 + (1 : Int)))
  some (.inl (q4_2.1, q4_2.2.1, t82_2, q4_2.2.2.2))) none) (
  some (.inr l8))

theorem zone_occurrences_l2_step_le (N : Nat) (s46 : Tn45) (s47 : Int) (s48 : Int) (l8 : Tn2) : OLe (zone_occurrences_l2_step_x N s46 s47 s48 l8) (zone_occurrences_l2_step s46 s47 s48 l8) := by
  unfold zone_occurrences_l2_step_x zone_occurrences_l2_step
  with_reducible repeat' (first | exact OLe.refl _ | exact OLe.none _ | exact zone_occurrences_l4_le N _ _ _ _ _ _ _ _ _ _ _ _ | apply OLe.cond | apply OLe.sumC | refine OLe.bind ?_ ?_ | intro _)

def zone_occurrences_l2_x (N : Nat) (s46 : Tn45) (s47 : Int) (s48 : Int) (l8 : Tn2) : Option (Tn2) :=
  loopN (fun h : Tn45 × Int × Int × Tn2 => zone_occurrences_l2_step_x N h.1 h.2.1 h.2.2.1 h.2.2.2) N (s46, s47, s48, l8)

theorem zone_occurrences_l2_le (N : Nat) (s46 : Tn45) (s47 : Int) (s48 : Int) (l8 : Tn2) : OLe (zone_occurrences_l2_x N s46 s47 s48 l8) (zone_occurrences_l2 s46 s47 s48 l8) := OLe.loop N _ fun h => zone_occurrences_l2_step_le N _ _ _ _

def zone_occurrences_x (N : Nat) (a0_z : Tn55) : Option (Tn2 × Int) :=
  (zone_in a0_z.2.1 (-64800 : Int) (64800 : Int)).bind fun r16 =>
  cond (!r16) (
  some (([] : Tn2), (1 : Int))) (
  let t20 : Int := (Int.ofNat (List.length a0_z.2.2))
  cond (decide (t20 > (16 : Int))) (
  some (([] : Tn2), (5 : Int))) (
  let t24 : Int := (Int.ofNat (List.length a0_z.2.2))
  (zone_occurrences_l0_x N (0 : Int) a0_z.2.2 t24 (0 : Int) a0_z.1 a0_z.2.1 a0_z.2.2).bind fun q0 =>
  sumC q0 (fun a =>
  some (([] : Tn2), a)) (fun b =>
  cond (decide (b.1 > (640 : Int))) (
  some (([] : Tn2), (5 : Int))) (
  let t47 : Int := (Int.ofNat (List.length b.2.2.2))
  (zone_occurrences_l2_x N b.2.2.2 t47 (0 : Int) ([] : Tn2)).bind fun q2 =>
  (slices_SortStableFunc_zone_occurrence_zone_occurrence_x N q2).bind fun r84 =>
  some (r84, (0 : Int))))))

theorem zone_occurrences_le (N : Nat) (a0_z : Tn55) : OLe (zone_occurrences_x N a0_z) (zone_occurrences a0_z) := by
  unfold zone_occurrences_x zone_occurrences
  with_reducible repeat' (first | exact OLe.refl _ | exact OLe.none _ | exact zone_occurrences_l0_le N _ _ _ _ _ _ _ | exact zone_occurrences_l2_le N _ _ _ _ | exact slices_SortStableFunc_zone_occurrence_zone_occurrence_le N _ | apply OLe.cond | apply OLe.sumC | refine OLe.bind ?_ ?_ | intro _)

def zone_Transitions_l0_x (N : Nat) (s7 : Int) (s23 : Int) (s24 : Int) (l6 : Tn2) (l22 : Tn2) : Option (Int ⊕ Tn2) :=
  loopN (fun h : Int × Int × Int × Tn2 × Tn2 => zone_Transitions_l0_step h.1 h.2.1 h.2.2.1 h.2.2.2.1 h.2.2.2.2) N (s7, s23, s24, l6, l22)

theorem zone_Transitions_l0_le (N : Nat) (s7 : Int) (s23 : Int) (s24 : Int) (l6 : Tn2) (l22 : Tn2) : OLe (zone_Transitions_l0_x N s7 s23 s24 l6 l22) (zone_Transitions_l0 s7 s23 s24 l6 l22) := OLe.loop N _ fun h => OLe.refl _

def zone_Transitions_x (N : Nat) (a0_z : Tn55) : Option (Tn2 × Int) :=
  (zone_occurrences_x N (a0_z.1, (a0_z.2.1, a0_z.2.2))).bind fun r14 =>
  cond (r14.2 != (0 : Int)) (
  some (([] : Tn2), r14.2)) (
  let t23 : Int := (Int.ofNat (List.length r14.1))
  (zone_Transitions_l0_x N a0_z.2.1 t23 (0 : Int) ([] : Tn2) r14.1).bind fun q0 =>
  sumC q0 (fun a =>
  some (([] : Tn2), a)) (fun b =>
  some (b, (0 : Int))))

theorem zone_Transitions_le (N : Nat) (a0_z : Tn55) : OLe (zone_Transitions_x N a0_z) (zone_Transitions a0_z) := by
  unfold zone_Transitions_x zone_Transitions
  with_reducible repeat' (first | exact OLe.refl _ | exact OLe.none _ | exact zone_occurrences_le N _ | exact zone_Transitions_l0_le N _ _ _ _ _ | apply OLe.cond | apply OLe.sumC | refine OLe.bind ?_ ?_ | intro _)

def zone_Check_x (N : Nat) (a0_z : Tn55) : Option (Int) :=
  (zone_Transitions_x N (a0_z.1, (a0_z.2.1, a0_z.2.2))).bind fun r7 =>
  some r7.2

theorem zone_Check_le (N : Nat) (a0_z : Tn55) : OLe (zone_Check_x N a0_z) (zone_Check a0_z) := by
  unfold zone_Check_x zone_Check
  with_reducible repeat' (first | exact OLe.refl _ | exact OLe.none _ | exact zone_Transitions_le N _ | apply OLe.cond | apply OLe.sumC | refine OLe.bind ?_ ?_ | intro _)

def slices_IndexFunc_api_YearRule_api_YearRule_l0_x (N : Nat) (s0 : Tn45) (s7 : Int) (s8 : Int) : Option (Int ⊕ Unit) :=
  loopN (fun h : Tn45 × Int × Int => slices_IndexFunc_api_YearRule_api_YearRule_l0_step h.1 h.2.1 h.2.2) N (s0, s7, s8)

theorem slices_IndexFunc_api_YearRule_api_YearRule_l0_le (N : Nat) (s0 : Tn45) (s7 : Int) (s8 : Int) : OLe (slices_IndexFunc_api_YearRule_api_YearRule_l0_x N s0 s7 s8) (slices_IndexFunc_api_YearRule_api_YearRule_l0 s0 s7 s8) := OLe.loop N _ fun h => OLe.refl _

def slices_IndexFunc_api_YearRule_api_YearRule_x (N : Nat) (a0_s : Tn45) : Option (Int) :=
  let t7 : Int := (Int.ofNat (List.length a0_s))
  (slices_IndexFunc_api_YearRule_api_YearRule_l0_x N a0_s t7 (0 : Int)).bind fun q0 =>
  sumC q0 (fun a =>
  some a) (fun b =>
  some (-1 : Int))

theorem slices_IndexFunc_api_YearRule_api_YearRule_le (N : Nat) (a0_s : Tn45) : OLe (slices_IndexFunc_api_YearRule_api_YearRule_x N a0_s) (slices_IndexFunc_api_YearRule_api_YearRule a0_s) := by
  unfold slices_IndexFunc_api_YearRule_api_YearRule_x slices_IndexFunc_api_YearRule_api_YearRule
  with_reducible repeat' (first | exact OLe.refl _ | exact OLe.none _ | exact slices_IndexFunc_api_YearRule_api_YearRule_l0_le N _ _ _ | apply OLe.cond | apply OLe.sumC | refine OLe.bind ?_ ?_ | intro _)

def slices_ContainsFunc_api_YearRule_api_YearRule_x (N : Nat) (a0_s : Tn45) : Option (Bool) :=
  (slices_IndexFunc_api_YearRule_api_YearRule_x N a0_s).bind fun r7 =>
  some (decide (r7 ≥ (0 : Int)))

theorem slices_ContainsFunc_api_YearRule_api_YearRule_le (N : Nat) (a0_s : Tn45) : OLe (slices_ContainsFunc_api_YearRule_api_YearRule_x N a0_s) (slices_ContainsFunc_api_YearRule_api_YearRule a0_s) := by
  unfold slices_ContainsFunc_api_YearRule_api_YearRule_x slices_ContainsFunc_api_YearRule_api_YearRule
  with_reducible repeat' (first | exact OLe.refl _ | exact OLe.none _ | exact slices_IndexFunc_api_YearRule_api_YearRule_le N _ | apply OLe.cond | apply OLe.sumC | refine OLe.bind ?_ ?_ | intro _)

def resolve_checkZone_x (N : Nat) (a0_z : Tn55) : Option (Int) :=
  (zone_Check_x N (a0_z.1, (a0_z.2.1, a0_z.2.2))).bind fun r4 =>
  let t9 : Int := (Int.tmod a0_z.2.1 (60 : Int))
  cond (cond (r4 != (0 : Int)) true (t9 != (0 : Int))) (
  some (8 : Int)) (
  (slices_ContainsFunc_api_YearRule_api_YearRule_x N a0_z.2.2).bind fun r15 =>
  cond r15 (
  some (8 : Int)) (
  some (0 : Int)))

theorem resolve_checkZone_le (N : Nat) (a0_z : Tn55) : OLe (resolve_checkZone_x N a0_z) (resolve_checkZone a0_z) := by
  unfold resolve_checkZone_x resolve_checkZone
  with_reducible repeat' (first | exact OLe.refl _ | exact OLe.none _ | exact zone_Check_le N _ | exact slices_ContainsFunc_api_YearRule_api_YearRule_le N _ | apply OLe.cond | apply OLe.sumC | refine OLe.bind ?_ ?_ | intro _)

def resolve_named_api_Zone_l0_step_x (N : Nat) (s13 : Tn57) (s14 : Int) (s15 : Int) (l7 : (List (ByteArray × Bool))) : Option ((Tn57 × Int × Int × (List (ByteArray × Bool))) ⊕ (Int ⊕ Unit)) :=
  cond (decide (s15 < s14)) (
  cond (inR s15 (List.length s13)) (
  let t17_1 : Tn55 := (List.getD s13 (Int.toNat s15) (ByteArray.empty, ((0 : Int), ([] : Tn45))))
  (resolve_Check_c1 (t17_1.1, (t17_1.2.1, t17_1.2.2))).bind fun r21_1 =>
  (resolve_name_x N r21_1 l7).bind fun r23_1 =>
  cond (r23_1.1 != (0 : Int)) (
  some (.inr (.inl r23_1.1))) (
  (resolve_checkZone_x N (t17_1.1, (t17_1.2.1, t17_1.2.2))).bind fun r29_1 =>
  cond (r29_1 != (0 : Int)) (
  some (.inr (.inl r29_1))) (
  let t33_1 : Int := (w64 (s15 + (1 : Int)))
  some (.inl (s13, s14, t33_1, r23_1.2))))) none) (
  some (.inr (.inr ())))

theorem resolve_named_api_Zone_l0_step_le (N : Nat) (s13 : Tn57) (s14 : Int) (s15 : Int) (l7 : (List (ByteArray × Bool))) : OLe (resolve_named_api_Zone_l0_step_x N s13 s14 s15 l7) (resolve_named_api_Zone_l0_step s13 s14 s15 l7) := by
  unfold resolve_named_api_Zone_l0_step_x resolve_named_api_Zone_l0_step
  with_reducible repeat' (first | exact OLe.refl _ | exact OLe.none _ | exact resolve_name_le N _ _ | exact resolve_checkZone_le N _ | apply OLe.cond | apply OLe.sumC | refine OLe.bind ?_ ?_ | intro _)

def resolve_named_api_Zone_l0_x (N : Nat) (s13 : Tn57) (s14 : Int) (s15 : Int) (l7 : (List (ByteArray × Bool))) : Option (Int ⊕ Unit) :=
  loopN (fun h : Tn57 × Int × Int × (List (ByteArray × Bool)) => resolve_named_api_Zone_l0_step_x N h.1 h.2.1 h.2.2.1 h.2.2.2) N (s13, s14, s15, l7)

theorem resolve_named_api_Zone_l0_le (N : Nat) (s13 : Tn57) (s14 : Int) (s15 : Int) (l7 : (List (ByteArray × Bool))) : OLe (resolve_named_api_Zone_l0_x N s13 s14 s15 l7) (resolve_named_api_Zone_l0 s13 s14 s15 l7) := OLe.loop N _ fun h => resolve_named_api_Zone_l0_step_le N _ _ _ _

def resolve_named_api_Zone_x (N : Nat) (a0_l : Tn57) : Option (Int) :=
  let t12 : (List (ByteArray × Bool)) := ([] : (List (ByteArray × Bool)))
  let t14 : Int := (Int.ofNat (List.length a0_l))
  (resolve_named_api_Zone_l0_x N a0_l t14 (0 : Int) t12).bind fun q0 =>
  sumC q0 (fun a =>
  some a) (fun b =>
  some (0 : Int))

theorem resolve_named_api_Zone_le (N : Nat) (a0_l : Tn57) : OLe (resolve_named_api_Zone_x N a0_l) (resolve_named_api_Zone a0_l) := by
  unfold resolve_named_api_Zone_x resolve_named_api_Zone
  with_reducible repeat' (first | exact OLe.refl _ | exact OLe.none _ | exact resolve_named_api_Zone_l0_le N _ _ _ _ | apply OLe.cond | apply OLe.sumC | refine OLe.bind ?_ ?_ | intro _)

def week_Check_l0_x (N : Nat) (s0 : Tn2) (s8 : Tn2) (s9 : Int) (s10 : Int) : Option (Int ⊕ Unit) :=
  loopN (fun h : Tn2 × Tn2 × Int × Int => week_Check_l0_step h.1 h.2.1 h.2.2.1 h.2.2.2) N (s0, s8, s9, s10)

theorem week_Check_l0_le (N : Nat) (s0 : Tn2) (s8 : Tn2) (s9 : Int) (s10 : Int) : OLe (week_Check_l0_x N s0 s8 s9 s10) (week_Check_l0 s0 s8 s9 s10) := OLe.loop N _ fun h => OLe.refl _

def week_Check_x (N : Nat) (a0_l : Tn2) : Option (Int) :=
  let t6 : Int := (Int.ofNat (List.length a0_l))
  cond (decide (t6 > (14 : Int))) (
  some (5 : Int)) (
  let t9 : Int := (Int.ofNat (List.length a0_l))
  (week_Check_l0_x N a0_l a0_l t9 (0 : Int)).bind fun q0 =>
  sumC q0 (fun a =>
  some a) (fun b =>
  some (0 : Int)))

theorem week_Check_le (N : Nat) (a0_l : Tn2) : OLe (week_Check_x N a0_l) (week_Check a0_l) := by
  unfold week_Check_x week_Check
  with_reducible repeat' (first | exact OLe.refl _ | exact OLe.none _ | exact week_Check_l0_le N _ _ _ _ | apply OLe.cond | apply OLe.sumC | refine OLe.bind ?_ ?_ | intro _)

def resolve_checkPerson_x (N : Nat) (a0_c : Tn74) (a1_p : Tn47) : Option (Int) :=
  let t10 : Int := (Int.ofNat (List.length a0_c.1))
  (resolve_index a1_p.2.1 t10).bind fun r11 =>
  cond (!r11) (
  some (3 : Int)) (
  (week_Check_x N a1_p.2.2.1).bind fun r16 =>
  cond (r16 != (0 : Int)) (
  some (8 : Int)) (
  (resolve_hours a1_p.2.2.2.1).bind fun r21 =>
  cond (!r21) (
  some (1 : Int)) (
  (resolve_hours a1_p.2.2.2.2.1).bind fun r26 =>
  cond (!r26) (
  some (1 : Int)) (
  some (0 : Int)))))

theorem resolve_checkPerson_le (N : Nat) (a0_c : Tn74) (a1_p : Tn47) : OLe (resolve_checkPerson_x N a0_c a1_p) (resolve_checkPerson a0_c a1_p) := by
  unfold resolve_checkPerson_x resolve_checkPerson
  with_reducible repeat' (first | exact OLe.refl _ | exact OLe.none _ | exact week_Check_le N _ | apply OLe.cond | apply OLe.sumC | refine OLe.bind ?_ ?_ | intro _)

def civil_year_l0_x (N : Nat) (s0 : Int) (s3 : Int) : Option (Int) :=
  loopN (unc2 (civil_year_l0_step)) N (s0, s3)

theorem civil_year_l0_le (N : Nat) (s0 : Int) (s3 : Int) : OLe (civil_year_l0_x N s0 s3) (civil_year_l0 s0 s3) := OLe.loop N _ fun h => OLe.refl _

def civil_year_x (N : Nat) (a0_day : Int) : Option (Int) :=
  (civil_floor a0_day (366 : Int)).bind fun r5 =>
  let t6 : Int := (w64 ((1970 : Int) + r5))
  (civil_year_l0_x N a0_day t6).bind fun q0 =>
  some q0

theorem civil_year_le (N : Nat) (a0_day : Int) : OLe (civil_year_x N a0_day) (civil_year a0_day) := by
  unfold civil_year_x civil_year
  with_reducible repeat' (first | exact OLe.refl _ | exact OLe.none _ | exact civil_year_l0_le N _ _ | apply OLe.cond | apply OLe.sumC | refine OLe.bind ?_ ?_ | intro _)

def civil_DateOf_l0_x (N : Nat) (s5 : Int) (b2 : Int) (b2_1 : Int) (b2_2 : Int) (b4 : Int) (b4_1 : Int) (b4_2 : Int) : Option ((Int × Int × Int × Int × Int × Int × Int)) :=
  loopN (unc7 (civil_DateOf_l0_step)) N (s5, b2, b2_1, b2_2, b4, b4_1, b4_2)

theorem civil_DateOf_l0_le (N : Nat) (s5 : Int) (b2 : Int) (b2_1 : Int) (b2_2 : Int) (b4 : Int) (b4_1 : Int) (b4_2 : Int) : OLe (civil_DateOf_l0_x N s5 b2 b2_1 b2_2 b4 b4_1 b4_2) (civil_DateOf_l0 s5 b2 b2_1 b2_2 b4 b4_1 b4_2) := OLe.loop N _ fun h => OLe.refl _

def civil_DateOf_x (N : Nat) (a0_day : Int) : Option (Tn3 × Int) :=
  (civil_count (1970 : Int)).bind fun r7 =>
  cond (decide (a0_day < r7)) (
  some (((0 : Int), ((0 : Int), (0 : Int))), (1 : Int))) (
  (civil_count (2241 : Int)).bind fun r11 =>
  cond (decide (a0_day ≥ r11)) (
  some (((0 : Int), ((0 : Int), (0 : Int))), (1 : Int))) (
  (civil_year_x N a0_day).bind fun r16 =>
  (civil_count r16).bind fun r21 =>
  let t22 : Int := (w64 (a0_day - r21))
  (civil_DateOf_l0_x N t22 (0 : Int) (0 : Int) (0 : Int) r16 (1 : Int) (0 : Int)).bind fun q0 =>
  let t42 : Int := (w64 (q0.1 + (1 : Int)))
  some ((q0.2.2.2.2.1, (q0.2.2.2.2.2.1, t42)), (0 : Int))))

theorem civil_DateOf_le (N : Nat) (a0_day : Int) : OLe (civil_DateOf_x N a0_day) (civil_DateOf a0_day) := by
  unfold civil_DateOf_x civil_DateOf
  with_reducible repeat' (first | exact OLe.refl _ | exact OLe.none _ | exact civil_year_le N _ | exact civil_DateOf_l0_le N _ _ _ _ _ _ _ | apply OLe.cond | apply OLe.sumC | refine OLe.bind ?_ ?_ | intro _)

def resolve_day_x (N : Nat) (a0_n : Int) : Option (Bool) :=
  (civil_DateOf_x N a0_n).bind fun r7 =>
  some (r7.2 == (0 : Int))

theorem resolve_day_le (N : Nat) (a0_n : Int) : OLe (resolve_day_x N a0_n) (resolve_day a0_n) := by
  unfold resolve_day_x resolve_day
  with_reducible repeat' (first | exact OLe.refl _ | exact OLe.none _ | exact civil_DateOf_le N _ | apply OLe.cond | apply OLe.sumC | refine OLe.bind ?_ ?_ | intro _)

def resolve_checkCalendar_c1_x (N : Nat) (a0_n : Int) : Option (Bool) :=
  (resolve_day_x N a0_n).bind fun r4 =>
  some (!r4)

theorem resolve_checkCalendar_c1_le (N : Nat) (a0_n : Int) : OLe (resolve_checkCalendar_c1_x N a0_n) (resolve_checkCalendar_c1 a0_n) := by
  unfold resolve_checkCalendar_c1_x resolve_checkCalendar_c1
  with_reducible repeat' (first | exact OLe.refl _ | exact OLe.none _ | exact resolve_day_le N _ | apply OLe.cond | apply OLe.sumC | refine OLe.bind ?_ ?_ | intro _)

def slices_IndexFunc_int_int_l0_step_x (N : Nat) (s0 : (List Int)) (s7 : Int) (s8 : Int) : Option (((List Int) × Int × Int) ⊕ (Int ⊕ Unit)) :=
  cond (decide (s8 < s7)) (
  cond (inR s8 (List.length s0)) (
  let t14_1 : Int := (List.getD s0 (Int.toNat s8) (0 : Int))
  (resolve_checkCalendar_c1_x N t14_1).bind fun r16_1 =>
  cond r16_1 (
  some (.inr (.inl s8))) (
  let t18_1 : Int := (w64 (s8 + (1 : Int)))
  some (.inl (s0, s7, t18_1)))) none) (
  some (.inr (.inr ())))

theorem slices_IndexFunc_int_int_l0_step_le (N : Nat) (s0 : (List Int)) (s7 : Int) (s8 : Int) : OLe (slices_IndexFunc_int_int_l0_step_x N s0 s7 s8) (slices_IndexFunc_int_int_l0_step s0 s7 s8) := by
  unfold slices_IndexFunc_int_int_l0_step_x slices_IndexFunc_int_int_l0_step
  with_reducible repeat' (first | exact OLe.refl _ | exact OLe.none _ | exact resolve_checkCalendar_c1_le N _ | apply OLe.cond | apply OLe.sumC | refine OLe.bind ?_ ?_ | intro _)

def slices_IndexFunc_int_int_l0_x (N : Nat) (s0 : (List Int)) (s7 : Int) (s8 : Int) : Option (Int ⊕ Unit) :=
  loopN (fun h : (List Int) × Int × Int => slices_IndexFunc_int_int_l0_step_x N h.1 h.2.1 h.2.2) N (s0, s7, s8)

theorem slices_IndexFunc_int_int_l0_le (N : Nat) (s0 : (List Int)) (s7 : Int) (s8 : Int) : OLe (slices_IndexFunc_int_int_l0_x N s0 s7 s8) (slices_IndexFunc_int_int_l0 s0 s7 s8) := OLe.loop N _ fun h => slices_IndexFunc_int_int_l0_step_le N _ _ _

def slices_IndexFunc_int_int_x (N : Nat) (a0_s : (List Int)) : Option (Int) :=
  let t7 : Int := (Int.ofNat (List.length a0_s))
  (slices_IndexFunc_int_int_l0_x N a0_s t7 (0 : Int)).bind fun q0 =>
  sumC q0 (fun a =>
  some a) (fun b =>
  some (-1 : Int))

theorem slices_IndexFunc_int_int_le (N : Nat) (a0_s : (List Int)) : OLe (slices_IndexFunc_int_int_x N a0_s) (slices_IndexFunc_int_int a0_s) := by
  unfold slices_IndexFunc_int_int_x slices_IndexFunc_int_int
  with_reducible repeat' (first | exact OLe.refl _ | exact OLe.none _ | exact slices_IndexFunc_int_int_l0_le N _ _ _ | apply OLe.cond | apply OLe.sumC | refine OLe.bind ?_ ?_ | intro _)

def slices_ContainsFunc_int_int_x (N : Nat) (a0_s : (List Int)) : Option (Bool) :=
  (slices_IndexFunc_int_int_x N a0_s).bind fun r7 =>
  some (decide (r7 ≥ (0 : Int)))

theorem slices_ContainsFunc_int_int_le (N : Nat) (a0_s : (List Int)) : OLe (slices_ContainsFunc_int_int_x N a0_s) (slices_ContainsFunc_int_int a0_s) := by
  unfold slices_ContainsFunc_int_int_x slices_ContainsFunc_int_int
  with_reducible repeat' (first | exact OLe.refl _ | exact OLe.none _ | exact slices_IndexFunc_int_int_le N _ | apply OLe.cond | apply OLe.sumC | refine OLe.bind ?_ ?_ | intro _)

def resolve_checkCalendar_l1_x (N : Nat) (s25 : Int) (s26 : Int) (b3 : ByteArray) (b3_1 : Int) (b3_2 : (List Int)) : Option (Int ⊕ Unit) :=
  loopN (fun h : Int × Int × ByteArray × Int × (List Int) => resolve_checkCalendar_l1_step h.1 h.2.1 h.2.2.1 h.2.2.2.1 h.2.2.2.2) N (s25, s26, b3, b3_1, b3_2)

theorem resolve_checkCalendar_l1_le (N : Nat) (s25 : Int) (s26 : Int) (b3 : ByteArray) (b3_1 : Int) (b3_2 : (List Int)) : OLe (resolve_checkCalendar_l1_x N s25 s26 b3 b3_1 b3_2) (resolve_checkCalendar_l1 s25 s26 b3 b3_1 b3_2) := OLe.loop N _ fun h => OLe.refl _

def resolve_checkCalendar_x (N : Nat) (a0_c : Tn74) (a1_x : Tn20) : Option (Int) :=
  let t11 : Int := (Int.ofNat (List.length a0_c.1))
  (resolve_index a1_x.2.1 t11).bind fun r12 =>
  cond (!r12) (
  some (3 : Int)) (
  let t17 : Int := (Int.ofNat (List.length a1_x.2.2))
  cond (decide (t17 > (64 : Int))) (
  some (5 : Int)) (
  (slices_ContainsFunc_int_int_x N a1_x.2.2).bind fun r22 =>
  cond r22 (
  some (1 : Int)) (
  let t25 : Int := (Int.ofNat (List.length a1_x.2.2))
  (resolve_checkCalendar_l1_x N t25 (0 : Int) a1_x.1 a1_x.2.1 a1_x.2.2).bind fun q1 =>
  sumC q1 (fun a =>
  some a) (fun b =>
  some (0 : Int)))))

theorem resolve_checkCalendar_le (N : Nat) (a0_c : Tn74) (a1_x : Tn20) : OLe (resolve_checkCalendar_x N a0_c a1_x) (resolve_checkCalendar a0_c a1_x) := by
  unfold resolve_checkCalendar_x resolve_checkCalendar
  with_reducible repeat' (first | exact OLe.refl _ | exact OLe.none _ | exact slices_ContainsFunc_int_int_le N _ | exact resolve_checkCalendar_l1_le N _ _ _ _ _ | apply OLe.cond | apply OLe.sumC | refine OLe.bind ?_ ?_ | intro _)

def resolve_Check_c3_x (N : Nat) (a0_x : Tn20) (a1 : Tn57) (a1_1 : Tn51) (a1_2 : Tn28) (a1_3 : Tn68) : Option (Int) :=
  (resolve_checkCalendar_x N (a1, (a1_1, (a1_2, a1_3))) (a0_x.1, (a0_x.2.1, a0_x.2.2))).bind fun r6 =>
  some r6

theorem resolve_Check_c3_le (N : Nat) (a0_x : Tn20) (a1 : Tn57) (a1_1 : Tn51) (a1_2 : Tn28) (a1_3 : Tn68) : OLe (resolve_Check_c3_x N a0_x a1 a1_1 a1_2 a1_3) (resolve_Check_c3 a0_x a1 a1_1 a1_2 a1_3) := by
  unfold resolve_Check_c3_x resolve_Check_c3
  with_reducible repeat' (first | exact OLe.refl _ | exact OLe.none _ | exact resolve_checkCalendar_le N _ _ | apply OLe.cond | apply OLe.sumC | refine OLe.bind ?_ ?_ | intro _)

def resolve_named_api_Calendar_l0_step_x (N : Nat) (s2 : Tn57) (s2_1 : Tn51) (s2_2 : Tn28) (s2_3 : Tn68) (s13 : Tn28) (s14 : Int) (s15 : Int) (l7 : (List (ByteArray × Bool))) : Option ((Tn57 × Tn51 × Tn28 × Tn68 × Tn28 × Int × Int × (List (ByteArray × Bool))) ⊕ (Int ⊕ Unit)) :=
  cond (decide (s15 < s14)) (
  cond (inR s15 (List.length s13)) (
  let t17_1 : Tn20 := (List.getD s13 (Int.toNat s15) (ByteArray.empty, ((0 : Int), ([] : (List Int)))))
  (resolve_Check_c2 (t17_1.1, (t17_1.2.1, t17_1.2.2))).bind fun r21_1 =>
  (resolve_name_x N r21_1 l7).bind fun r23_1 =>
  cond (r23_1.1 != (0 : Int)) (
  some (.inr (.inl r23_1.1))) (
  (resolve_Check_c3_x N (t17_1.1, (t17_1.2.1, t17_1.2.2)) s2 s2_1 s2_2 s2_3).bind fun r29_1 =>
  cond (r29_1 != (0 : Int)) (
  some (.inr (.inl r29_1))) (
  let t33_1 : Int := (w64 (s15 + (1 : Int)))
  some (.inl (s2, s2_1, s2_2, s2_3, s13, s14, t33_1, r23_1.2))))) none) (
  some (.inr (.inr ())))

theorem resolve_named_api_Calendar_l0_step_le (N : Nat) (s2 : Tn57) (s2_1 : Tn51) (s2_2 : Tn28) (s2_3 : Tn68) (s13 : Tn28) (s14 : Int) (s15 : Int) (l7 : (List (ByteArray × Bool))) : OLe (resolve_named_api_Calendar_l0_step_x N s2 s2_1 s2_2 s2_3 s13 s14 s15 l7) (resolve_named_api_Calendar_l0_step s2 s2_1 s2_2 s2_3 s13 s14 s15 l7) := by
  unfold resolve_named_api_Calendar_l0_step_x resolve_named_api_Calendar_l0_step
  with_reducible repeat' (first | exact OLe.refl _ | exact OLe.none _ | exact resolve_name_le N _ _ | exact resolve_Check_c3_le N _ _ _ _ _ | apply OLe.cond | apply OLe.sumC | refine OLe.bind ?_ ?_ | intro _)

def resolve_named_api_Calendar_l0_x (N : Nat) (s2 : Tn57) (s2_1 : Tn51) (s2_2 : Tn28) (s2_3 : Tn68) (s13 : Tn28) (s14 : Int) (s15 : Int) (l7 : (List (ByteArray × Bool))) : Option (Int ⊕ Unit) :=
  loopN (fun h : Tn57 × Tn51 × Tn28 × Tn68 × Tn28 × Int × Int × (List (ByteArray × Bool)) => resolve_named_api_Calendar_l0_step_x N h.1 h.2.1 h.2.2.1 h.2.2.2.1 h.2.2.2.2.1 h.2.2.2.2.2.1 h.2.2.2.2.2.2.1 h.2.2.2.2.2.2.2) N (s2, s2_1, s2_2, s2_3, s13, s14, s15, l7)

theorem resolve_named_api_Calendar_l0_le (N : Nat) (s2 : Tn57) (s2_1 : Tn51) (s2_2 : Tn28) (s2_3 : Tn68) (s13 : Tn28) (s14 : Int) (s15 : Int) (l7 : (List (ByteArray × Bool))) : OLe (resolve_named_api_Calendar_l0_x N s2 s2_1 s2_2 s2_3 s13 s14 s15 l7) (resolve_named_api_Calendar_l0 s2 s2_1 s2_2 s2_3 s13 s14 s15 l7) := OLe.loop N _ fun h => resolve_named_api_Calendar_l0_step_le N _ _ _ _ _ _ _ _

def resolve_named_api_Calendar_x (N : Nat) (a0_l : Tn28) (a2_check : Tn57) (a2_check_1 : Tn51) (a2_check_2 : Tn28) (a2_check_3 : Tn68) : Option (Int) :=
  let t12 : (List (ByteArray × Bool)) := ([] : (List (ByteArray × Bool)))
  let t14 : Int := (Int.ofNat (List.length a0_l))
  (resolve_named_api_Calendar_l0_x N a2_check a2_check_1 a2_check_2 a2_check_3 a0_l t14 (0 : Int) t12).bind fun q0 =>
  sumC q0 (fun a =>
  some a) (fun b =>
  some (0 : Int))

theorem resolve_named_api_Calendar_le (N : Nat) (a0_l : Tn28) (a2_check : Tn57) (a2_check_1 : Tn51) (a2_check_2 : Tn28) (a2_check_3 : Tn68) : OLe (resolve_named_api_Calendar_x N a0_l a2_check a2_check_1 a2_check_2 a2_check_3) (resolve_named_api_Calendar a0_l a2_check a2_check_1 a2_check_2 a2_check_3) := by
  unfold resolve_named_api_Calendar_x resolve_named_api_Calendar
  with_reducible repeat' (first | exact OLe.refl _ | exact OLe.none _ | exact resolve_named_api_Calendar_l0_le N _ _ _ _ _ _ _ _ | apply OLe.cond | apply OLe.sumC | refine OLe.bind ?_ ?_ | intro _)

def slices_IndexFunc_int_int_s2_l0_x (N : Nat) (s0 : (List Int)) (s1 : Tn57) (s1_1 : Tn51) (s1_2 : Tn28) (s1_3 : Tn68) (s7 : Int) (s8 : Int) : Option (Int ⊕ Unit) :=
  loopN (fun h : (List Int) × Tn57 × Tn51 × Tn28 × Tn68 × Int × Int => slices_IndexFunc_int_int_s2_l0_step h.1 h.2.1 h.2.2.1 h.2.2.2.1 h.2.2.2.2.1 h.2.2.2.2.2.1 h.2.2.2.2.2.2) N (s0, s1, s1_1, s1_2, s1_3, s7, s8)

theorem slices_IndexFunc_int_int_s2_l0_le (N : Nat) (s0 : (List Int)) (s1 : Tn57) (s1_1 : Tn51) (s1_2 : Tn28) (s1_3 : Tn68) (s7 : Int) (s8 : Int) : OLe (slices_IndexFunc_int_int_s2_l0_x N s0 s1 s1_1 s1_2 s1_3 s7 s8) (slices_IndexFunc_int_int_s2_l0 s0 s1 s1_1 s1_2 s1_3 s7 s8) := OLe.loop N _ fun h => OLe.refl _

def slices_IndexFunc_int_int_s2_x (N : Nat) (a0_s : (List Int)) (a1_f : Tn57) (a1_f_1 : Tn51) (a1_f_2 : Tn28) (a1_f_3 : Tn68) : Option (Int) :=
  let t7 : Int := (Int.ofNat (List.length a0_s))
  (slices_IndexFunc_int_int_s2_l0_x N a0_s a1_f a1_f_1 a1_f_2 a1_f_3 t7 (0 : Int)).bind fun q0 =>
  sumC q0 (fun a =>
  some a) (fun b =>
  some (-1 : Int))

theorem slices_IndexFunc_int_int_s2_le (N : Nat) (a0_s : (List Int)) (a1_f : Tn57) (a1_f_1 : Tn51) (a1_f_2 : Tn28) (a1_f_3 : Tn68) : OLe (slices_IndexFunc_int_int_s2_x N a0_s a1_f a1_f_1 a1_f_2 a1_f_3) (slices_IndexFunc_int_int_s2 a0_s a1_f a1_f_1 a1_f_2 a1_f_3) := by
  unfold slices_IndexFunc_int_int_s2_x slices_IndexFunc_int_int_s2
  with_reducible repeat' (first | exact OLe.refl _ | exact OLe.none _ | exact slices_IndexFunc_int_int_s2_l0_le N _ _ _ _ _ _ _ | apply OLe.cond | apply OLe.sumC | refine OLe.bind ?_ ?_ | intro _)

def slices_ContainsFunc_int_int_s2_x (N : Nat) (a0_s : (List Int)) (a1_f : Tn57) (a1_f_1 : Tn51) (a1_f_2 : Tn28) (a1_f_3 : Tn68) : Option (Bool) :=
  (slices_IndexFunc_int_int_s2_x N a0_s a1_f a1_f_1 a1_f_2 a1_f_3).bind fun r7 =>
  some (decide (r7 ≥ (0 : Int)))

theorem slices_ContainsFunc_int_int_s2_le (N : Nat) (a0_s : (List Int)) (a1_f : Tn57) (a1_f_1 : Tn51) (a1_f_2 : Tn28) (a1_f_3 : Tn68) : OLe (slices_ContainsFunc_int_int_s2_x N a0_s a1_f a1_f_1 a1_f_2 a1_f_3) (slices_ContainsFunc_int_int_s2 a0_s a1_f a1_f_1 a1_f_2 a1_f_3) := by
  unfold slices_ContainsFunc_int_int_s2_x slices_ContainsFunc_int_int_s2
  with_reducible repeat' (first | exact OLe.refl _ | exact OLe.none _ | exact slices_IndexFunc_int_int_s2_le N _ _ _ _ _ | apply OLe.cond | apply OLe.sumC | refine OLe.bind ?_ ?_ | intro _)

def resolve_checkLayer_x (N : Nat) (a0_c : Tn74) (a1_l : Tn62) : Option (Int) :=
  let t10 : Int := (Int.ofNat (List.length a0_c.1))
  (resolve_index a1_l.2.1 t10).bind fun r11 =>
  cond (!r11) (
  some (3 : Int)) (
  cond (decide (a1_l.2.2.1.1 < (1 : Int))) (
  some (1 : Int)) (
  (resolve_day_x N a1_l.2.2.1.1).bind fun r22 =>
  cond (!r22) (
  some (1 : Int)) (
  (resolve_in a1_l.2.2.1.2 (0 : Int) (86399 : Int)).bind fun r29 =>
  cond (!r29) (
  some (1 : Int)) (
  (resolve_in a1_l.2.2.2.1 (0 : Int) (2 : Int)).bind fun r35 =>
  cond (!r35) (
  some (1 : Int)) (
  (resolve_in a1_l.2.2.2.2.1 (1 : Int) (400 : Int)).bind fun r41 =>
  cond (!r41) (
  some (1 : Int)) (
  let t47 : Int := (Int.ofNat (List.length a1_l.2.2.2.2.2.1))
  cond (t47 == (0 : Int)) (
  some (7 : Int)) (
  let t52 : Int := (Int.ofNat (List.length a1_l.2.2.2.2.2.1))
  cond (decide (t52 > (12 : Int))) (
  some (5 : Int)) (
  (slices_ContainsFunc_int_int_s2_x N a1_l.2.2.2.2.2.1 a0_c.1 a0_c.2.1 a0_c.2.2.1 a0_c.2.2.2).bind fun r58 =>
  cond r58 (
  some (3 : Int)) (
  (week_Check_x N a1_l.2.2.2.2.2.2.1).bind fun r62 =>
  cond (r62 != (0 : Int)) (
  some (8 : Int)) (
  (resolve_in a1_l.2.2.2.2.2.2.2.2 (0 : Int) (2 : Int)).bind fun r67 =>
  cond (!r67) (
  some (1 : Int)) (
  let t78 : Int := (Int.ofNat (List.length a0_c.2.2.1))
  cond (a1_l.2.2.2.2.2.2.2.2 != (0 : Int)) (
  (resolve_index a1_l.2.2.2.2.2.2.2.1 t78).bind fun r79 =>
  cond (!r79) (
  some (3 : Int)) (
  cond (cond (a1_l.2.2.2.2.2.2.2.2 == (0 : Int)) (a1_l.2.2.2.2.2.2.2.1 != (0 : Int)) false) (
  some (1 : Int)) (
  some (0 : Int)))) (
  cond (cond (a1_l.2.2.2.2.2.2.2.2 == (0 : Int)) (a1_l.2.2.2.2.2.2.2.1 != (0 : Int)) false) (
  some (1 : Int)) (
  some (0 : Int))))))))))))))

theorem resolve_checkLayer_le (N : Nat) (a0_c : Tn74) (a1_l : Tn62) : OLe (resolve_checkLayer_x N a0_c a1_l) (resolve_checkLayer a0_c a1_l) := by
  unfold resolve_checkLayer_x resolve_checkLayer
  with_reducible repeat' (first | exact OLe.refl _ | exact OLe.none _ | exact resolve_day_le N _ | exact slices_ContainsFunc_int_int_s2_le N _ _ _ _ _ | exact week_Check_le N _ | apply OLe.cond | apply OLe.sumC | refine OLe.bind ?_ ?_ | intro _)

def resolve_checkSchedule_c2_x (N : Nat) (a0_l : Tn62) (a1 : Tn57) (a1_1 : Tn51) (a1_2 : Tn28) (a1_3 : Tn68) : Option (Int) :=
  (resolve_checkLayer_x N (a1, (a1_1, (a1_2, a1_3))) (a0_l.1, (a0_l.2.1, ((a0_l.2.2.1.1, a0_l.2.2.1.2), (a0_l.2.2.2.1, (a0_l.2.2.2.2.1, (a0_l.2.2.2.2.2.1, (a0_l.2.2.2.2.2.2.1, (a0_l.2.2.2.2.2.2.2.1, a0_l.2.2.2.2.2.2.2.2))))))))).bind fun r6 =>
  some r6

theorem resolve_checkSchedule_c2_le (N : Nat) (a0_l : Tn62) (a1 : Tn57) (a1_1 : Tn51) (a1_2 : Tn28) (a1_3 : Tn68) : OLe (resolve_checkSchedule_c2_x N a0_l a1 a1_1 a1_2 a1_3) (resolve_checkSchedule_c2 a0_l a1 a1_1 a1_2 a1_3) := by
  unfold resolve_checkSchedule_c2_x resolve_checkSchedule_c2
  with_reducible repeat' (first | exact OLe.refl _ | exact OLe.none _ | exact resolve_checkLayer_le N _ _ | apply OLe.cond | apply OLe.sumC | refine OLe.bind ?_ ?_ | intro _)

def resolve_named_api_Layer_l0_step_x (N : Nat) (s2 : Tn57) (s2_1 : Tn51) (s2_2 : Tn28) (s2_3 : Tn68) (s13 : Tn63) (s14 : Int) (s15 : Int) (l7 : (List (ByteArray × Bool))) : Option ((Tn57 × Tn51 × Tn28 × Tn68 × Tn63 × Int × Int × (List (ByteArray × Bool))) ⊕ (Int ⊕ Unit)) :=
  cond (decide (s15 < s14)) (
  cond (inR s15 (List.length s13)) (
  let t17_1 : Tn62 := (List.getD s13 (Int.toNat s15) (ByteArray.empty, ((0 : Int), (((0 : Int), (0 : Int)), ((0 : Int), ((0 : Int), (([] : (List Int)), (([] : Tn2), ((0 : Int), (0 : Int))))))))))
  (resolve_checkSchedule_c1 (t17_1.1, (t17_1.2.1, ((t17_1.2.2.1.1, t17_1.2.2.1.2), (t17_1.2.2.2.1, (t17_1.2.2.2.2.1, (t17_1.2.2.2.2.2.1, (t17_1.2.2.2.2.2.2.1, (t17_1.2.2.2.2.2.2.2.1, t17_1.2.2.2.2.2.2.2.2))))))))).bind fun r21_1 =>
  (resolve_name_x N r21_1 l7).bind fun r23_1 =>
  cond (r23_1.1 != (0 : Int)) (
  some (.inr (.inl r23_1.1))) (
  (resolve_checkSchedule_c2_x N (t17_1.1, (t17_1.2.1, ((t17_1.2.2.1.1, t17_1.2.2.1.2), (t17_1.2.2.2.1, (t17_1.2.2.2.2.1, (t17_1.2.2.2.2.2.1, (t17_1.2.2.2.2.2.2.1, (t17_1.2.2.2.2.2.2.2.1, t17_1.2.2.2.2.2.2.2.2)))))))) s2 s2_1 s2_2 s2_3).bind fun r29_1 =>
  cond (r29_1 != (0 : Int)) (
  some (.inr (.inl r29_1))) (
  let t33_1 : Int := (w64 (s15 + (1 : Int)))
  some (.inl (s2, s2_1, s2_2, s2_3, s13, s14, t33_1, r23_1.2))))) none) (
  some (.inr (.inr ())))

theorem resolve_named_api_Layer_l0_step_le (N : Nat) (s2 : Tn57) (s2_1 : Tn51) (s2_2 : Tn28) (s2_3 : Tn68) (s13 : Tn63) (s14 : Int) (s15 : Int) (l7 : (List (ByteArray × Bool))) : OLe (resolve_named_api_Layer_l0_step_x N s2 s2_1 s2_2 s2_3 s13 s14 s15 l7) (resolve_named_api_Layer_l0_step s2 s2_1 s2_2 s2_3 s13 s14 s15 l7) := by
  unfold resolve_named_api_Layer_l0_step_x resolve_named_api_Layer_l0_step
  with_reducible repeat' (first | exact OLe.refl _ | exact OLe.none _ | exact resolve_name_le N _ _ | exact resolve_checkSchedule_c2_le N _ _ _ _ _ | apply OLe.cond | apply OLe.sumC | refine OLe.bind ?_ ?_ | intro _)

def resolve_named_api_Layer_l0_x (N : Nat) (s2 : Tn57) (s2_1 : Tn51) (s2_2 : Tn28) (s2_3 : Tn68) (s13 : Tn63) (s14 : Int) (s15 : Int) (l7 : (List (ByteArray × Bool))) : Option (Int ⊕ Unit) :=
  loopN (fun h : Tn57 × Tn51 × Tn28 × Tn68 × Tn63 × Int × Int × (List (ByteArray × Bool)) => resolve_named_api_Layer_l0_step_x N h.1 h.2.1 h.2.2.1 h.2.2.2.1 h.2.2.2.2.1 h.2.2.2.2.2.1 h.2.2.2.2.2.2.1 h.2.2.2.2.2.2.2) N (s2, s2_1, s2_2, s2_3, s13, s14, s15, l7)

theorem resolve_named_api_Layer_l0_le (N : Nat) (s2 : Tn57) (s2_1 : Tn51) (s2_2 : Tn28) (s2_3 : Tn68) (s13 : Tn63) (s14 : Int) (s15 : Int) (l7 : (List (ByteArray × Bool))) : OLe (resolve_named_api_Layer_l0_x N s2 s2_1 s2_2 s2_3 s13 s14 s15 l7) (resolve_named_api_Layer_l0 s2 s2_1 s2_2 s2_3 s13 s14 s15 l7) := OLe.loop N _ fun h => resolve_named_api_Layer_l0_step_le N _ _ _ _ _ _ _ _

def resolve_named_api_Layer_x (N : Nat) (a0_l : Tn63) (a2_check : Tn57) (a2_check_1 : Tn51) (a2_check_2 : Tn28) (a2_check_3 : Tn68) : Option (Int) :=
  let t12 : (List (ByteArray × Bool)) := ([] : (List (ByteArray × Bool)))
  let t14 : Int := (Int.ofNat (List.length a0_l))
  (resolve_named_api_Layer_l0_x N a2_check a2_check_1 a2_check_2 a2_check_3 a0_l t14 (0 : Int) t12).bind fun q0 =>
  sumC q0 (fun a =>
  some a) (fun b =>
  some (0 : Int))

theorem resolve_named_api_Layer_le (N : Nat) (a0_l : Tn63) (a2_check : Tn57) (a2_check_1 : Tn51) (a2_check_2 : Tn28) (a2_check_3 : Tn68) : OLe (resolve_named_api_Layer_x N a0_l a2_check a2_check_1 a2_check_2 a2_check_3) (resolve_named_api_Layer a0_l a2_check a2_check_1 a2_check_2 a2_check_3) := by
  unfold resolve_named_api_Layer_x resolve_named_api_Layer
  with_reducible repeat' (first | exact OLe.refl _ | exact OLe.none _ | exact resolve_named_api_Layer_l0_le N _ _ _ _ _ _ _ _ | apply OLe.cond | apply OLe.sumC | refine OLe.bind ?_ ?_ | intro _)

def resolve_checkEdit_x (N : Nat) (a0_c : Tn74) (a1_x : Tn26) : Option (Int) :=
  let t8 : Int := (Int.ofNat (List.length a0_c.2.1))
  (resolve_in a1_x.1 (0 : Int) (2 : Int)).bind fun r12 =>
  cond (!r12) (
  some (1 : Int)) (
  (resolve_index a1_x.2.1 t8).bind fun r18 =>
  cond (cond (!r18) (!(cond (a1_x.1 == (1 : Int)) (a1_x.2.1 == (-1 : Int)) false)) false) (
  cond (cond (!r18) (!(cond (a1_x.1 == (1 : Int)) (a1_x.2.1 == (-1 : Int)) false)) false) (
  some (3 : Int)) (
  cond (cond (a1_x.1 != (2 : Int)) (a1_x.2.2.1 != (0 : Int)) false) (
  some (1 : Int)) (
  cond (cond (a1_x.1 == (2 : Int)) (a1_x.2.1 == a1_x.2.2.1) false) (
  some (4 : Int)) (
  let t73 : Int := (w64 (Int.tdiv a1_x.2.2.2.2 (86400 : Int)))
  cond (cond (decide (a1_x.2.2.2.1 < (0 : Int))) true (decide (a1_x.2.2.2.2 < (0 : Int)))) (
  some (1 : Int)) (
  (resolve_day_x N t73).bind fun r74 =>
  cond (!r74) (
  some (1 : Int)) (
  cond (decide (a1_x.2.2.2.1 ≥ a1_x.2.2.2.2)) (
  some (6 : Int)) (
  some (0 : Int)))))))) (
  cond (a1_x.1 == (2 : Int)) (
  (resolve_index a1_x.2.2.1 t8).bind fun r38 =>
  cond (!r38) (
  some (3 : Int)) (
  cond (cond (a1_x.1 != (2 : Int)) (a1_x.2.2.1 != (0 : Int)) false) (
  some (1 : Int)) (
  cond (cond (a1_x.1 == (2 : Int)) (a1_x.2.1 == a1_x.2.2.1) false) (
  some (4 : Int)) (
  let t73_1 : Int := (w64 (Int.tdiv a1_x.2.2.2.2 (86400 : Int)))
  cond (cond (decide (a1_x.2.2.2.1 < (0 : Int))) true (decide (a1_x.2.2.2.2 < (0 : Int)))) (
  some (1 : Int)) (
  (resolve_day_x N t73_1).bind fun r74_1 =>
  cond (!r74_1) (
  some (1 : Int)) (
  cond (decide (a1_x.2.2.2.1 ≥ a1_x.2.2.2.2)) (
  some (6 : Int)) (
  some (0 : Int)))))))) (
  cond (cond (a1_x.1 != (2 : Int)) (a1_x.2.2.1 != (0 : Int)) false) (
  some (1 : Int)) (
  cond (cond (a1_x.1 == (2 : Int)) (a1_x.2.1 == a1_x.2.2.1) false) (
  some (4 : Int)) (
  let t73_2 : Int := (w64 (Int.tdiv a1_x.2.2.2.2 (86400 : Int)))
  cond (cond (decide (a1_x.2.2.2.1 < (0 : Int))) true (decide (a1_x.2.2.2.2 < (0 : Int)))) (
  some (1 : Int)) (
  (resolve_day_x N t73_2).bind fun r74_2 =>
  cond (!r74_2) (
  some (1 : Int)) (
  cond (decide (a1_x.2.2.2.1 ≥ a1_x.2.2.2.2)) (
  some (6 : Int)) (
  some (0 : Int)))))))))

theorem resolve_checkEdit_le (N : Nat) (a0_c : Tn74) (a1_x : Tn26) : OLe (resolve_checkEdit_x N a0_c a1_x) (resolve_checkEdit a0_c a1_x) := by
  unfold resolve_checkEdit_x resolve_checkEdit
  with_reducible repeat' (first | exact OLe.refl _ | exact OLe.none _ | exact resolve_day_le N _ | apply OLe.cond | apply OLe.sumC | refine OLe.bind ?_ ?_ | intro _)

def resolve_checkSchedule_l0_step_x (N : Nat) (s27 : Tn32) (s28 : Int) (s29 : Int) (b2 : Tn57) (b2_1 : Tn51) (b2_2 : Tn28) (b2_3 : Tn68) : Option ((Tn32 × Int × Int × Tn57 × Tn51 × Tn28 × Tn68) ⊕ (Int ⊕ Unit)) :=
  cond (decide (s29 < s28)) (
  cond (inR s29 (List.length s27)) (
  let t31_1 : Tn26 := (List.getD s27 (Int.toNat s29) ((0 : Int), ((0 : Int), ((0 : Int), ((0 : Int), (0 : Int))))))
  (resolve_checkEdit_x N (b2, (b2_1, (b2_2, b2_3))) (t31_1.1, (t31_1.2.1, (t31_1.2.2.1, (t31_1.2.2.2.1, t31_1.2.2.2.2))))).bind fun r35_1 =>
  cond (r35_1 != (0 : Int)) (
  some (.inr (.inl r35_1))) (
  let t39_1 : Int := (w64 (s29 + (1 : Int)))
  some (.inl (s27, s28, t39_1, b2, b2_1, b2_2, b2_3)))) none) (
  some (.inr (.inr ())))

theorem resolve_checkSchedule_l0_step_le (N : Nat) (s27 : Tn32) (s28 : Int) (s29 : Int) (b2 : Tn57) (b2_1 : Tn51) (b2_2 : Tn28) (b2_3 : Tn68) : OLe (resolve_checkSchedule_l0_step_x N s27 s28 s29 b2 b2_1 b2_2 b2_3) (resolve_checkSchedule_l0_step s27 s28 s29 b2 b2_1 b2_2 b2_3) := by
  unfold resolve_checkSchedule_l0_step_x resolve_checkSchedule_l0_step
  with_reducible repeat' (first | exact OLe.refl _ | exact OLe.none _ | exact resolve_checkEdit_le N _ _ | apply OLe.cond | apply OLe.sumC | refine OLe.bind ?_ ?_ | intro _)

def resolve_checkSchedule_l0_x (N : Nat) (s27 : Tn32) (s28 : Int) (s29 : Int) (b2 : Tn57) (b2_1 : Tn51) (b2_2 : Tn28) (b2_3 : Tn68) : Option (Int ⊕ Unit) :=
  loopN (fun h : Tn32 × Int × Int × Tn57 × Tn51 × Tn28 × Tn68 => resolve_checkSchedule_l0_step_x N h.1 h.2.1 h.2.2.1 h.2.2.2.1 h.2.2.2.2.1 h.2.2.2.2.2.1 h.2.2.2.2.2.2) N (s27, s28, s29, b2, b2_1, b2_2, b2_3)

theorem resolve_checkSchedule_l0_le (N : Nat) (s27 : Tn32) (s28 : Int) (s29 : Int) (b2 : Tn57) (b2_1 : Tn51) (b2_2 : Tn28) (b2_3 : Tn68) : OLe (resolve_checkSchedule_l0_x N s27 s28 s29 b2 b2_1 b2_2 b2_3) (resolve_checkSchedule_l0 s27 s28 s29 b2 b2_1 b2_2 b2_3) := OLe.loop N _ fun h => resolve_checkSchedule_l0_step_le N _ _ _ _ _ _ _

def resolve_checkSchedule_x (N : Nat) (a0_c : Tn74) (a1_s : Tn67) : Option (Int) :=
  let t11 : Int := (Int.ofNat (List.length a1_s.2.1))
  let t16 : Int := (Int.ofNat (List.length a1_s.2.2))
  cond (cond (decide (t11 > (6 : Int))) true (decide (t16 > (48 : Int)))) (
  some (5 : Int)) (
  (resolve_named_api_Layer_x N a1_s.2.1 a0_c.1 a0_c.2.1 a0_c.2.2.1 a0_c.2.2.2).bind fun r22 =>
  cond (r22 != (0 : Int)) (
  some r22) (
  let t28 : Int := (Int.ofNat (List.length a1_s.2.2))
  (resolve_checkSchedule_l0_x N a1_s.2.2 t28 (0 : Int) a0_c.1 a0_c.2.1 a0_c.2.2.1 a0_c.2.2.2).bind fun q0 =>
  sumC q0 (fun a =>
  some a) (fun b =>
  some (0 : Int))))

theorem resolve_checkSchedule_le (N : Nat) (a0_c : Tn74) (a1_s : Tn67) : OLe (resolve_checkSchedule_x N a0_c a1_s) (resolve_checkSchedule a0_c a1_s) := by
  unfold resolve_checkSchedule_x resolve_checkSchedule
  with_reducible repeat' (first | exact OLe.refl _ | exact OLe.none _ | exact resolve_named_api_Layer_le N _ _ _ _ _ | exact resolve_checkSchedule_l0_le N _ _ _ _ _ _ _ | apply OLe.cond | apply OLe.sumC | refine OLe.bind ?_ ?_ | intro _)

def resolve_Check_c5_x (N : Nat) (a0_s : Tn67) (a1 : Tn57) (a1_1 : Tn51) (a1_2 : Tn28) (a1_3 : Tn68) : Option (Int) :=
  (resolve_checkSchedule_x N (a1, (a1_1, (a1_2, a1_3))) (a0_s.1, (a0_s.2.1, a0_s.2.2))).bind fun r6 =>
  some r6

theorem resolve_Check_c5_le (N : Nat) (a0_s : Tn67) (a1 : Tn57) (a1_1 : Tn51) (a1_2 : Tn28) (a1_3 : Tn68) : OLe (resolve_Check_c5_x N a0_s a1 a1_1 a1_2 a1_3) (resolve_Check_c5 a0_s a1 a1_1 a1_2 a1_3) := by
  unfold resolve_Check_c5_x resolve_Check_c5
  with_reducible repeat' (first | exact OLe.refl _ | exact OLe.none _ | exact resolve_checkSchedule_le N _ _ | apply OLe.cond | apply OLe.sumC | refine OLe.bind ?_ ?_ | intro _)

def resolve_named_api_Schedule_l0_step_x (N : Nat) (s2 : Tn57) (s2_1 : Tn51) (s2_2 : Tn28) (s2_3 : Tn68) (s13 : Tn68) (s14 : Int) (s15 : Int) (l7 : (List (ByteArray × Bool))) : Option ((Tn57 × Tn51 × Tn28 × Tn68 × Tn68 × Int × Int × (List (ByteArray × Bool))) ⊕ (Int ⊕ Unit)) :=
  cond (decide (s15 < s14)) (
  cond (inR s15 (List.length s13)) (
  let t17_1 : Tn67 := (List.getD s13 (Int.toNat s15) (ByteArray.empty, (([] : Tn63), ([] : Tn32))))
  (resolve_Check_c4 (t17_1.1, (t17_1.2.1, t17_1.2.2))).bind fun r21_1 =>
  (resolve_name_x N r21_1 l7).bind fun r23_1 =>
  cond (r23_1.1 != (0 : Int)) (
  some (.inr (.inl r23_1.1))) (
  (resolve_Check_c5_x N (t17_1.1, (t17_1.2.1, t17_1.2.2)) s2 s2_1 s2_2 s2_3).bind fun r29_1 =>
  cond (r29_1 != (0 : Int)) (
  some (.inr (.inl r29_1))) (
  let t33_1 : Int := (w64 (s15 + (1 : Int)))
  some (.inl (s2, s2_1, s2_2, s2_3, s13, s14, t33_1, r23_1.2))))) none) (
  some (.inr (.inr ())))

theorem resolve_named_api_Schedule_l0_step_le (N : Nat) (s2 : Tn57) (s2_1 : Tn51) (s2_2 : Tn28) (s2_3 : Tn68) (s13 : Tn68) (s14 : Int) (s15 : Int) (l7 : (List (ByteArray × Bool))) : OLe (resolve_named_api_Schedule_l0_step_x N s2 s2_1 s2_2 s2_3 s13 s14 s15 l7) (resolve_named_api_Schedule_l0_step s2 s2_1 s2_2 s2_3 s13 s14 s15 l7) := by
  unfold resolve_named_api_Schedule_l0_step_x resolve_named_api_Schedule_l0_step
  with_reducible repeat' (first | exact OLe.refl _ | exact OLe.none _ | exact resolve_name_le N _ _ | exact resolve_Check_c5_le N _ _ _ _ _ | apply OLe.cond | apply OLe.sumC | refine OLe.bind ?_ ?_ | intro _)

def resolve_named_api_Schedule_l0_x (N : Nat) (s2 : Tn57) (s2_1 : Tn51) (s2_2 : Tn28) (s2_3 : Tn68) (s13 : Tn68) (s14 : Int) (s15 : Int) (l7 : (List (ByteArray × Bool))) : Option (Int ⊕ Unit) :=
  loopN (fun h : Tn57 × Tn51 × Tn28 × Tn68 × Tn68 × Int × Int × (List (ByteArray × Bool)) => resolve_named_api_Schedule_l0_step_x N h.1 h.2.1 h.2.2.1 h.2.2.2.1 h.2.2.2.2.1 h.2.2.2.2.2.1 h.2.2.2.2.2.2.1 h.2.2.2.2.2.2.2) N (s2, s2_1, s2_2, s2_3, s13, s14, s15, l7)

theorem resolve_named_api_Schedule_l0_le (N : Nat) (s2 : Tn57) (s2_1 : Tn51) (s2_2 : Tn28) (s2_3 : Tn68) (s13 : Tn68) (s14 : Int) (s15 : Int) (l7 : (List (ByteArray × Bool))) : OLe (resolve_named_api_Schedule_l0_x N s2 s2_1 s2_2 s2_3 s13 s14 s15 l7) (resolve_named_api_Schedule_l0 s2 s2_1 s2_2 s2_3 s13 s14 s15 l7) := OLe.loop N _ fun h => resolve_named_api_Schedule_l0_step_le N _ _ _ _ _ _ _ _

def resolve_named_api_Schedule_x (N : Nat) (a0_l : Tn68) (a2_check : Tn57) (a2_check_1 : Tn51) (a2_check_2 : Tn28) (a2_check_3 : Tn68) : Option (Int) :=
  let t12 : (List (ByteArray × Bool)) := ([] : (List (ByteArray × Bool)))
  let t14 : Int := (Int.ofNat (List.length a0_l))
  (resolve_named_api_Schedule_l0_x N a2_check a2_check_1 a2_check_2 a2_check_3 a0_l t14 (0 : Int) t12).bind fun q0 =>
  sumC q0 (fun a =>
  some a) (fun b =>
  some (0 : Int))

theorem resolve_named_api_Schedule_le (N : Nat) (a0_l : Tn68) (a2_check : Tn57) (a2_check_1 : Tn51) (a2_check_2 : Tn28) (a2_check_3 : Tn68) : OLe (resolve_named_api_Schedule_x N a0_l a2_check a2_check_1 a2_check_2 a2_check_3) (resolve_named_api_Schedule a0_l a2_check a2_check_1 a2_check_2 a2_check_3) := by
  unfold resolve_named_api_Schedule_x resolve_named_api_Schedule
  with_reducible repeat' (first | exact OLe.refl _ | exact OLe.none _ | exact resolve_named_api_Schedule_l0_le N _ _ _ _ _ _ _ _ | apply OLe.cond | apply OLe.sumC | refine OLe.bind ?_ ?_ | intro _)

def resolve_Check_l0_step_x (N : Nat) (s39 : Tn51) (s40 : Int) (s41 : Int) (b1 : Tn57) (b1_1 : Tn51) (b1_2 : Tn28) (b1_3 : Tn68) (l4 : (List (ByteArray × Bool))) : Option ((Tn51 × Int × Int × Tn57 × Tn51 × Tn28 × Tn68 × (List (ByteArray × Bool))) ⊕ (Int ⊕ (Tn57 × Tn51 × Tn28 × Tn68))) :=
  cond (decide (s41 < s40)) (
  cond (inR s41 (List.length s39)) (
  let t43_1 : Tn47 := (List.getD s39 (Int.toNat s41) (ByteArray.empty, ((0 : Int), (([] : Tn2), ((0 : Int), ((0 : Int), false))))))
  (resolve_name_x N t43_1.1 l4).bind fun r48_1 =>
  let t51 : Bool := (ByteArray.toList t43_1.1 == ByteArray.toList (ByteArray.mk #[110, 111, 98, 111, 100, 121]))
  cond t51 (
  cond ((2 : Int) == (0 : Int)) (
  (resolve_checkPerson_x N (b1, (b1_1, (b1_2, b1_3))) (t43_1.1, (t43_1.2.1, (t43_1.2.2.1, (t43_1.2.2.2.1, (t43_1.2.2.2.2.1, t43_1.2.2.2.2.2)))))).bind fun r56_2 =>
  cond (r56_2 != (0 : Int)) (
  some (.inr (.inl r56_2))) (
  let t60_4 : Int := (w64 (s41 + (1 : Int)))
  some (.inl (s39, s40, t60_4, b1, b1_1, b1_2, b1_3, r48_1.2)))) (
  cond ((2 : Int) != (0 : Int)) (
  some (.inr (.inl (2 : Int)))) (
  let t60_5 : Int := (w64 (s41 + (1 : Int)))
  some (.inl (s39, s40, t60_5, b1, b1_1, b1_2, b1_3, r48_1.2))))) (
  cond (r48_1.1 == (0 : Int)) (
  (resolve_checkPerson_x N (b1, (b1_1, (b1_2, b1_3))) (t43_1.1, (t43_1.2.1, (t43_1.2.2.1, (t43_1.2.2.2.1, (t43_1.2.2.2.2.1, t43_1.2.2.2.2.2)))))).bind fun r56_3 =>
  cond (r56_3 != (0 : Int)) (
  some (.inr (.inl r56_3))) (
  let t60_6 : Int := (w64 (s41 + (1 : Int)))
  some (.inl (s39, s40, t60_6, b1, b1_1, b1_2, b1_3, r48_1.2)))) (
  cond (r48_1.1 != (0 : Int)) (
  some (.inr (.inl r48_1.1))) (
  let t60_7 : Int := (w64 (s41 + (1 : Int)))
  some (.inl (s39, s40, t60_7, b1, b1_1, b1_2, b1_3, r48_1.2)))))) none) (
  some (.inr (.inr (b1, b1_1, b1_2, b1_3))))

theorem resolve_Check_l0_step_le (N : Nat) (s39 : Tn51) (s40 : Int) (s41 : Int) (b1 : Tn57) (b1_1 : Tn51) (b1_2 : Tn28) (b1_3 : Tn68) (l4 : (List (ByteArray × Bool))) : OLe (resolve_Check_l0_step_x N s39 s40 s41 b1 b1_1 b1_2 b1_3 l4) (resolve_Check_l0_step s39 s40 s41 b1 b1_1 b1_2 b1_3 l4) := by
  unfold resolve_Check_l0_step_x resolve_Check_l0_step
  with_reducible repeat' (first | exact OLe.refl _ | exact OLe.none _ | exact resolve_name_le N _ _ | exact resolve_checkPerson_le N _ _ | apply OLe.cond | apply OLe.sumC | refine OLe.bind ?_ ?_ | intro _)

def resolve_Check_l0_x (N : Nat) (s39 : Tn51) (s40 : Int) (s41 : Int) (b1 : Tn57) (b1_1 : Tn51) (b1_2 : Tn28) (b1_3 : Tn68) (l4 : (List (ByteArray × Bool))) : Option (Int ⊕ (Tn57 × Tn51 × Tn28 × Tn68)) :=
  loopN (fun h : Tn51 × Int × Int × Tn57 × Tn51 × Tn28 × Tn68 × (List (ByteArray × Bool)) => resolve_Check_l0_step_x N h.1 h.2.1 h.2.2.1 h.2.2.2.1 h.2.2.2.2.1 h.2.2.2.2.2.1 h.2.2.2.2.2.2.1 h.2.2.2.2.2.2.2) N (s39, s40, s41, b1, b1_1, b1_2, b1_3, l4)

theorem resolve_Check_l0_le (N : Nat) (s39 : Tn51) (s40 : Int) (s41 : Int) (b1 : Tn57) (b1_1 : Tn51) (b1_2 : Tn28) (b1_3 : Tn68) (l4 : (List (ByteArray × Bool))) : OLe (resolve_Check_l0_x N s39 s40 s41 b1 b1_1 b1_2 b1_3 l4) (resolve_Check_l0 s39 s40 s41 b1 b1_1 b1_2 b1_3 l4) := OLe.loop N _ fun h => resolve_Check_l0_step_le N _ _ _ _ _ _ _ _

def resolve_Check_x (N : Nat) (a0_c : Tn74) : Option (Int) :=
  let t11 : Int := (Int.ofNat (List.length a0_c.1))
  let t16 : Int := (Int.ofNat (List.length a0_c.2.1))
  let t22 : Int := (Int.ofNat (List.length a0_c.2.2.1))
  let t24 : Bool := (cond (cond (decide (t11 > (16 : Int))) true (decide (t16 > (32 : Int)))) true (decide (t22 > (8 : Int))))
  let t28 : Int := (Int.ofNat (List.length a0_c.2.2.2))
  cond (cond t24 true (decide (t28 > (12 : Int)))) (
  some (5 : Int)) (
  (resolve_named_api_Zone_x N a0_c.1).bind fun r33 =>
  cond (r33 != (0 : Int)) (
  some r33) (
  let t37 : (List (ByteArray × Bool)) := ([] : (List (ByteArray × Bool)))
  let t40 : Int := (Int.ofNat (List.length a0_c.2.1))
  (resolve_Check_l0_x N a0_c.2.1 t40 (0 : Int) a0_c.1 a0_c.2.1 a0_c.2.2.1 a0_c.2.2.2 t37).bind fun q0 =>
  sumC q0 (fun a =>
  some a) (fun b =>
  (resolve_named_api_Calendar_x N b.2.2.1 b.1 b.2.1 b.2.2.1 b.2.2.2).bind fun r64 =>
  cond (r64 != (0 : Int)) (
  some r64) (
  (resolve_named_api_Schedule_x N b.2.2.2 b.1 b.2.1 b.2.2.1 b.2.2.2).bind fun r71 =>
  some r71))))

theorem resolve_Check_le (N : Nat) (a0_c : Tn74) : OLe (resolve_Check_x N a0_c) (resolve_Check a0_c) := by
  unfold resolve_Check_x resolve_Check
  with_reducible repeat' (first | exact OLe.refl _ | exact OLe.none _ | exact resolve_named_api_Zone_le N _ | exact resolve_Check_l0_le N _ _ _ _ _ _ _ _ | exact resolve_named_api_Calendar_le N _ _ _ _ _ | exact resolve_named_api_Schedule_le N _ _ _ _ _ | apply OLe.cond | apply OLe.sumC | refine OLe.bind ?_ ?_ | intro _)

def duty_fits_x (N : Nat) (a0_c : Tn74) (a1_l : Tn62) : Option (Bool) :=
  (resolve_Check_x N (a0_c.1, (a0_c.2.1, (a0_c.2.2.1, a0_c.2.2.2)))).bind fun r6 =>
  cond (r6 != (0 : Int)) (
  some false) (
  let t9 : Tn63 := [(a1_l.1, (a1_l.2.1, ((a1_l.2.2.1.1, a1_l.2.2.1.2), (a1_l.2.2.2.1, (a1_l.2.2.2.2.1, (a1_l.2.2.2.2.2.1, (a1_l.2.2.2.2.2.2.1, (a1_l.2.2.2.2.2.2.2.1, a1_l.2.2.2.2.2.2.2.2))))))))]
  let t11 : Tn68 := [((ByteArray.mk #[97]), (t9, ([] : Tn32)))]
  (resolve_Check_x N (a0_c.1, (a0_c.2.1, (a0_c.2.2.1, t11)))).bind fun r14 =>
  some (r14 == (0 : Int)))

theorem duty_fits_le (N : Nat) (a0_c : Tn74) (a1_l : Tn62) : OLe (duty_fits_x N a0_c a1_l) (duty_fits a0_c a1_l) := by
  unfold duty_fits_x duty_fits
  with_reducible repeat' (first | exact OLe.refl _ | exact OLe.none _ | exact resolve_Check_le N _ | apply OLe.cond | apply OLe.sumC | refine OLe.bind ?_ ?_ | intro _)

def duty_check_x (N : Nat) (a0_c : Tn74) (a1_l : Tn62) (a2_from : Int) (a3_to : Int) : Option (Int) :=
  (duty_fits_x N (a0_c.1, (a0_c.2.1, (a0_c.2.2.1, a0_c.2.2.2))) (a1_l.1, (a1_l.2.1, ((a1_l.2.2.1.1, a1_l.2.2.1.2), (a1_l.2.2.2.1, (a1_l.2.2.2.2.1, (a1_l.2.2.2.2.2.1, (a1_l.2.2.2.2.2.2.1, (a1_l.2.2.2.2.2.2.2.1, a1_l.2.2.2.2.2.2.2.2))))))))).bind fun r11 =>
  cond (!r11) (
  some (8 : Int)) (
  (duty_Range a2_from a3_to).bind fun r15 =>
  cond (!r15) (
  some (1 : Int)) (
  some (0 : Int)))

theorem duty_check_le (N : Nat) (a0_c : Tn74) (a1_l : Tn62) (a2_from : Int) (a3_to : Int) : OLe (duty_check_x N a0_c a1_l a2_from a3_to) (duty_check a0_c a1_l a2_from a3_to) := by
  unfold duty_check_x duty_check
  with_reducible repeat' (first | exact OLe.refl _ | exact OLe.none _ | exact duty_fits_le N _ _ | apply OLe.cond | apply OLe.sumC | refine OLe.bind ?_ ?_ | intro _)

def zone_Of_x (N : Nat) (a0_z : Tn55) : Option (Tn14 × Int) :=
  (zone_Transitions_x N (a0_z.1, (a0_z.2.1, a0_z.2.2))).bind fun r8 =>
  some ((a0_z.2.1, r8.1), r8.2)

theorem zone_Of_le (N : Nat) (a0_z : Tn55) : OLe (zone_Of_x N a0_z) (zone_Of a0_z) := by
  unfold zone_Of_x zone_Of
  with_reducible repeat' (first | exact OLe.refl _ | exact OLe.none _ | exact zone_Transitions_le N _ | apply OLe.cond | apply OLe.sumC | refine OLe.bind ?_ ?_ | intro _)

def zone_Tables_l0_step_x (N : Nat) (s8 : Tn57) (s9 : Int) (s10 : Int) (l3 : Tn22) : Option ((Tn57 × Int × Int × Tn22) ⊕ (Tn22)) :=
  cond (decide (s10 < s9)) (
  cond (inR s10 (List.length s8)) (
  let t12_2 : Tn55 := (List.getD s8 (Int.toNat s10) (ByteArray.empty, ((0 : Int), ([] : Tn45))))
  (zone_Of_x N (t12_2.1, (t12_2.2.1, t12_2.2.2))).bind fun r16_2 =>
  let t21_2 : Tn22 := [(r16_2.1.1, r16_2.1.2)]
  cond (decide (List.length l3 + List.length t21_2 ≤ sizeMax)) (
  let t22_2 : Tn22 := (l3 ++ t21_2)
  let t23_2 : Int := (w64 (s10 + (1 : Int)))
  some (.inl (s8, s9, t23_2, t22_2))) none) none) (
  some (.inr l3))

theorem zone_Tables_l0_step_le (N : Nat) (s8 : Tn57) (s9 : Int) (s10 : Int) (l3 : Tn22) : OLe (zone_Tables_l0_step_x N s8 s9 s10 l3) (zone_Tables_l0_step s8 s9 s10 l3) := by
  unfold zone_Tables_l0_step_x zone_Tables_l0_step
  with_reducible repeat' (first | exact OLe.refl _ | exact OLe.none _ | exact zone_Of_le N _ | apply OLe.cond | apply OLe.sumC | refine OLe.bind ?_ ?_ | intro _)

def zone_Tables_l0_x (N : Nat) (s8 : Tn57) (s9 : Int) (s10 : Int) (l3 : Tn22) : Option (Tn22) :=
  loopN (fun h : Tn57 × Int × Int × Tn22 => zone_Tables_l0_step_x N h.1 h.2.1 h.2.2.1 h.2.2.2) N (s8, s9, s10, l3)

theorem zone_Tables_l0_le (N : Nat) (s8 : Tn57) (s9 : Int) (s10 : Int) (l3 : Tn22) : OLe (zone_Tables_l0_x N s8 s9 s10 l3) (zone_Tables_l0 s8 s9 s10 l3) := OLe.loop N _ fun h => zone_Tables_l0_step_le N _ _ _ _

def zone_Tables_x (N : Nat) (a0_l : Tn57) : Option (Tn22) :=
  let t9 : Int := (Int.ofNat (List.length a0_l))
  (zone_Tables_l0_x N a0_l t9 (0 : Int) ([] : Tn22)).bind fun q0 =>
  some q0

theorem zone_Tables_le (N : Nat) (a0_l : Tn57) : OLe (zone_Tables_x N a0_l) (zone_Tables a0_l) := by
  unfold zone_Tables_x zone_Tables
  with_reducible repeat' (first | exact OLe.refl _ | exact OLe.none _ | exact zone_Tables_l0_le N _ _ _ _ | apply OLe.cond | apply OLe.sumC | refine OLe.bind ?_ ?_ | intro _)

def duty_view_x (N : Nat) (a0_c : Tn74) : Option (Tn76) :=
  (zone_Tables_x N a0_c.1).bind fun r6 =>
  some ((a0_c.1, (a0_c.2.1, (a0_c.2.2.1, a0_c.2.2.2))), r6)

theorem duty_view_le (N : Nat) (a0_c : Tn74) : OLe (duty_view_x N a0_c) (duty_view a0_c) := by
  unfold duty_view_x duty_view
  with_reducible repeat' (first | exact OLe.refl _ | exact OLe.none _ | exact zone_Tables_le N _ | apply OLe.cond | apply OLe.sumC | refine OLe.bind ?_ ?_ | intro _)

def sort_Search_l0_x (N : Nat) (s1 : Int) (s1_1 : Tn2) (s1_2 : Int) (s5 : Int) (s6 : Int) : Option (Int) :=
  loopN (fun h : Int × Tn2 × Int × Int × Int => sort_Search_l0_step h.1 h.2.1 h.2.2.1 h.2.2.2.1 h.2.2.2.2) N (s1, s1_1, s1_2, s5, s6)

theorem sort_Search_l0_le (N : Nat) (s1 : Int) (s1_1 : Tn2) (s1_2 : Int) (s5 : Int) (s6 : Int) : OLe (sort_Search_l0_x N s1 s1_1 s1_2 s5 s6) (sort_Search_l0 s1 s1_1 s1_2 s5 s6) := OLe.loop N _ fun h => OLe.refl _

def sort_Search_x (N : Nat) (a0_n : Int) (a1_f : Int) (a1_f_1 : Tn2) (a1_f_2 : Int) : Option (Int) :=
  (sort_Search_l0_x N a1_f a1_f_1 a1_f_2 (0 : Int) a0_n).bind fun q0 =>
  some q0

theorem sort_Search_le (N : Nat) (a0_n : Int) (a1_f : Int) (a1_f_1 : Tn2) (a1_f_2 : Int) : OLe (sort_Search_x N a0_n a1_f a1_f_1 a1_f_2) (sort_Search a0_n a1_f a1_f_1 a1_f_2) := by
  unfold sort_Search_x sort_Search
  with_reducible repeat' (first | exact OLe.refl _ | exact OLe.none _ | exact sort_Search_l0_le N _ _ _ _ _ | apply OLe.cond | apply OLe.sumC | refine OLe.bind ?_ ?_ | intro _)

def zone_Table_after_x (N : Nat) (a0_b : Tn14) (a1_t : Int) : Option (Int) :=
  let t7 : Int := (Int.ofNat (List.length a0_b.2))
  (sort_Search_x N t7 a0_b.1 a0_b.2 a1_t).bind fun r9 =>
  some r9

theorem zone_Table_after_le (N : Nat) (a0_b : Tn14) (a1_t : Int) : OLe (zone_Table_after_x N a0_b a1_t) (zone_Table_after a0_b a1_t) := by
  unfold zone_Table_after_x zone_Table_after
  with_reducible repeat' (first | exact OLe.refl _ | exact OLe.none _ | exact sort_Search_le N _ _ _ _ | apply OLe.cond | apply OLe.sumC | refine OLe.bind ?_ ?_ | intro _)

def zone_Table_Pieces_l0_step_x (N : Nat) (s1 : Int) (s2 : Int) (b3 : Int) (b3_1 : Tn2) (l7 : Tn15) : Option ((Int × Int × Int × Tn2 × Tn15) ⊕ (Tn15)) :=
  cond (decide (s1 < s2)) (
  (zone_Table_after_x N (b3, b3_1) s1).bind fun r15_2 =>
  let t20_2 : Int := (Int.ofNat (List.length b3_1))
  cond (decide (r15_2 < t20_2)) (
  cond (inR r15_2 (List.length b3_1)) (
  let t26_2 : (Int × Int) := (List.getD b3_1 (Int.toNat r15_2) ((0 : Int), (0 : Int)))
  let t29_2 : Int := (if t26_2.1 < s2 then t26_2.1 else s2 : Int)
  (zone_Table_before (b3, b3_1) r15_2).bind fun r35_4 =>
  let t37_4 : Tn15 := [(s1, (t29_2, r35_4))]
  cond (decide (List.length l7 + List.length t37_4 ≤ sizeMax)) (
  let t38_4 : Tn15 := (l7 ++ t37_4)
  some (.inl (t29_2, s2, b3, b3_1, t38_4))) none) none) (
  (zone_Table_before (b3, b3_1) r15_2).bind fun r35_5 =>
  let t37_5 : Tn15 := [(s1, (s2, r35_5))]
  cond (decide (List.length l7 + List.length t37_5 ≤ sizeMax)) (
  let t38_5 : Tn15 := (l7 ++ t37_5)
  some (.inl (s2, s2, b3, b3_1, t38_5))) none)) (
  some (.inr l7))

theorem zone_Table_Pieces_l0_step_le (N : Nat) (s1 : Int) (s2 : Int) (b3 : Int) (b3_1 : Tn2) (l7 : Tn15) : OLe (zone_Table_Pieces_l0_step_x N s1 s2 b3 b3_1 l7) (zone_Table_Pieces_l0_step s1 s2 b3 b3_1 l7) := by
  unfold zone_Table_Pieces_l0_step_x zone_Table_Pieces_l0_step
  with_reducible repeat' (first | exact OLe.refl _ | exact OLe.none _ | exact zone_Table_after_le N _ _ | apply OLe.cond | apply OLe.sumC | refine OLe.bind ?_ ?_ | intro _)

def zone_Table_Pieces_l0_x (N : Nat) (s1 : Int) (s2 : Int) (b3 : Int) (b3_1 : Tn2) (l7 : Tn15) : Option (Tn15) :=
  loopN (fun h : Int × Int × Int × Tn2 × Tn15 => zone_Table_Pieces_l0_step_x N h.1 h.2.1 h.2.2.1 h.2.2.2.1 h.2.2.2.2) N (s1, s2, b3, b3_1, l7)

theorem zone_Table_Pieces_l0_le (N : Nat) (s1 : Int) (s2 : Int) (b3 : Int) (b3_1 : Tn2) (l7 : Tn15) : OLe (zone_Table_Pieces_l0_x N s1 s2 b3 b3_1 l7) (zone_Table_Pieces_l0 s1 s2 b3 b3_1 l7) := OLe.loop N _ fun h => zone_Table_Pieces_l0_step_le N _ _ _ _ _

def zone_Table_Pieces_x (N : Nat) (a0_b : Tn14) (a1_from : Int) (a2_to : Int) : Option (Tn15) :=
  (zone_Table_Pieces_l0_x N a1_from a2_to a0_b.1 a0_b.2 ([] : Tn15)).bind fun q0 =>
  some q0

theorem zone_Table_Pieces_le (N : Nat) (a0_b : Tn14) (a1_from : Int) (a2_to : Int) : OLe (zone_Table_Pieces_x N a0_b a1_from a2_to) (zone_Table_Pieces a0_b a1_from a2_to) := by
  unfold zone_Table_Pieces_x zone_Table_Pieces
  with_reducible repeat' (first | exact OLe.refl _ | exact OLe.none _ | exact zone_Table_Pieces_l0_le N _ _ _ _ _ | apply OLe.cond | apply OLe.sumC | refine OLe.bind ?_ ?_ | intro _)

def zone_Table_First_l0_x (N : Nat) (s11 : Int) (s12 : Int) (b3 : Int) (b3_1 : Int) (l10 : Tn15) : Option ((Int × Bool) ⊕ Unit) :=
  loopN (fun h : Int × Int × Int × Int × Tn15 => zone_Table_First_l0_step h.1 h.2.1 h.2.2.1 h.2.2.2.1 h.2.2.2.2) N (s11, s12, b3, b3_1, l10)

theorem zone_Table_First_l0_le (N : Nat) (s11 : Int) (s12 : Int) (b3 : Int) (b3_1 : Int) (l10 : Tn15) : OLe (zone_Table_First_l0_x N s11 s12 b3 b3_1 l10) (zone_Table_First_l0 s11 s12 b3 b3_1 l10) := OLe.loop N _ fun h => OLe.refl _

def zone_Table_First_x (N : Nat) (a0_b : Tn14) (a1_l : (Int × Int)) : Option (Int × Bool) :=
  (zone_Table_Pieces_x N (a0_b.1, a0_b.2) (0 : Int) (8589934593 : Int)).bind fun r10 =>
  let t11 : Int := (Int.ofNat (List.length r10))
  (zone_Table_First_l0_x N t11 (0 : Int) a1_l.1 a1_l.2 r10).bind fun q0 =>
  sumC q0 (fun a =>
  some (a.1, a.2)) (fun b =>
  some ((0 : Int), false))

theorem zone_Table_First_le (N : Nat) (a0_b : Tn14) (a1_l : (Int × Int)) : OLe (zone_Table_First_x N a0_b a1_l) (zone_Table_First a0_b a1_l) := by
  unfold zone_Table_First_x zone_Table_First
  with_reducible repeat' (first | exact OLe.refl _ | exact OLe.none _ | exact zone_Table_Pieces_le N _ _ _ | exact zone_Table_First_l0_le N _ _ _ _ _ | apply OLe.cond | apply OLe.sumC | refine OLe.bind ?_ ?_ | intro _)

def recur_HandoverOf_x (N : Nat) (a0_b : Tn14) (a1_l : Tn62) (a2_k : Int) : Option (Int × Bool) :=
  cond (decide (a2_k > (8589934592 : Int))) (
  some ((0 : Int), false)) (
  cond (a1_l.2.2.2.1 != (0 : Int)) (
  (recur_step (a1_l.1, (a1_l.2.1, ((a1_l.2.2.1.1, a1_l.2.2.1.2), (a1_l.2.2.2.1, (a1_l.2.2.2.2.1, (a1_l.2.2.2.2.2.1, (a1_l.2.2.2.2.2.2.1, (a1_l.2.2.2.2.2.2.2.1, a1_l.2.2.2.2.2.2.2.2))))))))).bind fun r22 =>
  let t23 : Int := (w64 (a2_k * r22))
  let t24 : Int := (w64 (a1_l.2.2.1.1 + t23))
  (zone_Table_First_x N (a0_b.1, a0_b.2) (t24, a1_l.2.2.1.2)).bind fun r28 =>
  some (r28.1, r28.2)) (
  (zone_Table_First_x N (a0_b.1, a0_b.2) (a1_l.2.2.1.1, a1_l.2.2.1.2)).bind fun r34 =>
  let t40 : Int := (w64 ((3600 : Int) * a1_l.2.2.2.2.1))
  let t42 : Int := (w64 (t40 * a2_k))
  let t43 : Int := (w64 (r34.1 + t42))
  some (t43, (cond r34.2 (decide (t43 ≤ (8589934592 : Int))) false))))

theorem recur_HandoverOf_le (N : Nat) (a0_b : Tn14) (a1_l : Tn62) (a2_k : Int) : OLe (recur_HandoverOf_x N a0_b a1_l a2_k) (recur_HandoverOf a0_b a1_l a2_k) := by
  unfold recur_HandoverOf_x recur_HandoverOf
  with_reducible repeat' (first | exact OLe.refl _ | exact OLe.none _ | exact zone_Table_First_le N _ _ | apply OLe.cond | apply OLe.sumC | refine OLe.bind ?_ ?_ | intro _)

def slices_IndexFunc_api_Span_api_Span_l0_x (N : Nat) (s7 : Int) (s8 : Int) (b0 : Tn2) : Option (Tn14 ⊕ Tn2) :=
  loopN (unc3 (slices_IndexFunc_api_Span_api_Span_l0_step)) N (s7, s8, b0)

theorem slices_IndexFunc_api_Span_api_Span_l0_le (N : Nat) (s7 : Int) (s8 : Int) (b0 : Tn2) : OLe (slices_IndexFunc_api_Span_api_Span_l0_x N s7 s8 b0) (slices_IndexFunc_api_Span_api_Span_l0 s7 s8 b0) := OLe.loop N _ fun h => OLe.refl _

def slices_IndexFunc_api_Span_api_Span_x (N : Nat) (a0_s : Tn2) : Option Tn14 :=
  let t7 : Int := (Int.ofNat (List.length a0_s))
  (slices_IndexFunc_api_Span_api_Span_l0_x N t7 (0 : Int) a0_s).bind fun q0 =>
  sumC q0 (fun a =>
  some (a.1, a.2)) (fun b =>
  some ((-1 : Int), b))

theorem slices_IndexFunc_api_Span_api_Span_le (N : Nat) (a0_s : Tn2) : OLe (slices_IndexFunc_api_Span_api_Span_x N a0_s) (slices_IndexFunc_api_Span_api_Span a0_s) := by
  unfold slices_IndexFunc_api_Span_api_Span_x slices_IndexFunc_api_Span_api_Span
  with_reducible repeat' (first | exact OLe.refl _ | exact OLe.none _ | exact slices_IndexFunc_api_Span_api_Span_l0_le N _ _ _ | apply OLe.cond | apply OLe.sumC | refine OLe.bind ?_ ?_ | intro _)

def slices_DeleteFunc_api_Span_api_Span_l0_x (N : Nat) (s5 : Int) (s6 : Int) (b0 : Tn2) : Option (Tn14) :=
  loopN (unc3 (slices_DeleteFunc_api_Span_api_Span_l0_step)) N (s5, s6, b0)

theorem slices_DeleteFunc_api_Span_api_Span_l0_le (N : Nat) (s5 : Int) (s6 : Int) (b0 : Tn2) : OLe (slices_DeleteFunc_api_Span_api_Span_l0_x N s5 s6 b0) (slices_DeleteFunc_api_Span_api_Span_l0 s5 s6 b0) := OLe.loop N _ fun h => OLe.refl _

def slices_DeleteFunc_api_Span_api_Span_x (N : Nat) (a0_s : Tn2) : Option Tn14 :=
  (slices_IndexFunc_api_Span_api_Span_x N a0_s).bind fun r10 =>
  cond (r10.1 == (-1 : Int)) (
  some ((Int.ofNat (List.length r10.2)), r10.2)) (
  let t15 : Int := (w64 (r10.1 + (1 : Int)))
  (slices_DeleteFunc_api_Span_api_Span_l0_x N r10.1 t15 r10.2).bind fun q0 =>
  cond (decide ((0 : Int) ≤ q0.1) && decide (q0.1 ≤ (Int.ofNat (List.length q0.2)))) (
  let m3 : Tn2 := (List.take (Int.toNat q0.1) q0.2 ++ List.replicate (List.length q0.2 - (Int.toNat q0.1)) ((0 : Int), (0 : Int)))
  cond (decide ((0 : Int) ≤ q0.1) && decide (q0.1 ≤ (Int.ofNat (List.length m3)))) (
  some ((Int.ofNat (Int.toNat q0.1)), m3)) none) none)

theorem slices_DeleteFunc_api_Span_api_Span_le (N : Nat) (a0_s : Tn2) : OLe (slices_DeleteFunc_api_Span_api_Span_x N a0_s) (slices_DeleteFunc_api_Span_api_Span a0_s) := by
  unfold slices_DeleteFunc_api_Span_api_Span_x slices_DeleteFunc_api_Span_api_Span
  with_reducible repeat' (first | exact OLe.refl _ | exact OLe.none _ | exact slices_IndexFunc_api_Span_api_Span_le N _ | exact slices_DeleteFunc_api_Span_api_Span_l0_le N _ _ _ | apply OLe.cond | apply OLe.sumC | refine OLe.bind ?_ ?_ | intro _)

def span_Merge_l0_x (N : Nat) (s14 : Int) (s15 : Int) (l4 : Tn2) (l13 : Tn2) : Option (Tn2) :=
  loopN (unc4 (span_Merge_l0_step)) N (s14, s15, l4, l13)

theorem span_Merge_l0_le (N : Nat) (s14 : Int) (s15 : Int) (l4 : Tn2) (l13 : Tn2) : OLe (span_Merge_l0_x N s14 s15 l4 l13) (span_Merge_l0 s14 s15 l4 l13) := OLe.loop N _ fun h => OLe.refl _

def span_Merge_x (N : Nat) (a0_l : Tn2) : Option (Tn2) :=
  (slices_Clone_api_Span_api_Span a0_l).bind fun r9 =>
  (slices_DeleteFunc_api_Span_api_Span_x N r9).bind fun r10 =>
  let t10 : Tn2 := (List.take (Int.toNat r10.1) r10.2)
  (slices_SortFunc_api_Span_api_Span_237 t10).bind fun r12 =>
  let t14 : Int := (Int.ofNat (List.length r12))
  (span_Merge_l0_x N t14 (0 : Int) ([] : Tn2) r12).bind fun q0 =>
  some q0

theorem span_Merge_le (N : Nat) (a0_l : Tn2) : OLe (span_Merge_x N a0_l) (span_Merge a0_l) := by
  unfold span_Merge_x span_Merge
  with_reducible repeat' (first | exact OLe.refl _ | exact OLe.none _ | exact slices_DeleteFunc_api_Span_api_Span_le N _ | exact span_Merge_l0_le N _ _ _ _ | apply OLe.cond | apply OLe.sumC | refine OLe.bind ?_ ?_ | intro _)

def week_TimesOf_l4_x (N : Nat) (s1 : Tn2) (s13 : Int) (s20 : Int) (s21 : Int) (s45 : Tn2) (s46 : Int) (s47 : Int) (b11 : Int) (b11_1 : Int) (b11_2 : Int) (l9 : Tn2) (l19 : Tn15) : Option ((Tn2 × Int × Int × Int × Int × Int × Int × Tn2 × Tn15)) :=
  loopN (unc12 (week_TimesOf_l4_step)) N (s1, s13, s20, s21, s45, s46, s47, b11, b11_1, b11_2, l9, l19)

theorem week_TimesOf_l4_le (N : Nat) (s1 : Tn2) (s13 : Int) (s20 : Int) (s21 : Int) (s45 : Tn2) (s46 : Int) (s47 : Int) (b11 : Int) (b11_1 : Int) (b11_2 : Int) (l9 : Tn2) (l19 : Tn15) : OLe (week_TimesOf_l4_x N s1 s13 s20 s21 s45 s46 s47 b11 b11_1 b11_2 l9 l19) (week_TimesOf_l4 s1 s13 s20 s21 s45 s46 s47 b11 b11_1 b11_2 l9 l19) := OLe.loop N _ fun h => OLe.refl _

def week_TimesOf_l2_step_x (N : Nat) (s1 : Tn2) (s13 : Int) (s20 : Int) (s21 : Int) (b11 : Int) (b11_1 : Int) (b11_2 : Int) (l9 : Tn2) (l19 : Tn15) : Option ((Tn2 × Int × Int × Int × Int × Int × Int × Tn2 × Tn15) ⊕ ((Tn2 × Int × Int × Tn2 × Tn15))) :=
  cond (decide (s13 < b11_1)) (
  let t46_4 : Int := (Int.ofNat (List.length s1))
  (week_TimesOf_l4_x N s1 s13 s20 s21 s1 t46_4 (0 : Int) b11 b11_1 b11_2 l9 l19).bind fun q4_4 =>
  let t44_4 : Int := (w64 (q4_4.2.1 + (604800 : Int)))
  some (.inl (q4_4.1, t44_4, q4_4.2.2.1, q4_4.2.2.2.1, q4_4.2.2.2.2.1, q4_4.2.2.2.2.2.1, q4_4.2.2.2.2.2.2.1, q4_4.2.2.2.2.2.2.2.1, q4_4.2.2.2.2.2.2.2.2))) (
  some (.inr (s1, s20, s21, l9, l19)))

theorem week_TimesOf_l2_step_le (N : Nat) (s1 : Tn2) (s13 : Int) (s20 : Int) (s21 : Int) (b11 : Int) (b11_1 : Int) (b11_2 : Int) (l9 : Tn2) (l19 : Tn15) : OLe (week_TimesOf_l2_step_x N s1 s13 s20 s21 b11 b11_1 b11_2 l9 l19) (week_TimesOf_l2_step s1 s13 s20 s21 b11 b11_1 b11_2 l9 l19) := by
  unfold week_TimesOf_l2_step_x week_TimesOf_l2_step
  with_reducible repeat' (first | exact OLe.refl _ | exact OLe.none _ | exact week_TimesOf_l4_le N _ _ _ _ _ _ _ _ _ _ _ _ | apply OLe.cond | apply OLe.sumC | refine OLe.bind ?_ ?_ | intro _)

def week_TimesOf_l2_x (N : Nat) (s1 : Tn2) (s13 : Int) (s20 : Int) (s21 : Int) (b11 : Int) (b11_1 : Int) (b11_2 : Int) (l9 : Tn2) (l19 : Tn15) : Option ((Tn2 × Int × Int × Tn2 × Tn15)) :=
  loopN (unc9 (week_TimesOf_l2_step_x N)) N (s1, s13, s20, s21, b11, b11_1, b11_2, l9, l19)

theorem week_TimesOf_l2_le (N : Nat) (s1 : Tn2) (s13 : Int) (s20 : Int) (s21 : Int) (b11 : Int) (b11_1 : Int) (b11_2 : Int) (l9 : Tn2) (l19 : Tn15) : OLe (week_TimesOf_l2_x N s1 s13 s20 s21 b11 b11_1 b11_2 l9 l19) (week_TimesOf_l2 s1 s13 s20 s21 b11 b11_1 b11_2 l9 l19) := OLe.loop N _ fun h => week_TimesOf_l2_step_le N _ _ _ _ _ _ _ _ _

def week_TimesOf_l0_step_x (N : Nat) (s1 : Tn2) (s20 : Int) (s21 : Int) (l9 : Tn2) (l19 : Tn15) : Option ((Tn2 × Int × Int × Tn2 × Tn15) ⊕ (Tn2)) :=
  cond (decide (s21 < s20)) (
  cond (inR s21 (List.length l19)) (
  let t24_6 : Int := (List.getD l19 (Int.toNat s21) ((0 : Int), ((0 : Int), (0 : Int)))).1
  let t24_7 : Int := (List.getD l19 (Int.toNat s21) ((0 : Int), ((0 : Int), (0 : Int)))).2.1
  let t24_8 : Int := (List.getD l19 (Int.toNat s21) ((0 : Int), ((0 : Int), (0 : Int)))).2.2
  let t29_2 : Int := (w64 (t24_6 + t24_8))
  let t30_2 : Int := (w64 (t29_2 - (-259200 : Int)))
  let t33_2 : Int := (Int.tmod t30_2 (604800 : Int))
  let t34_2 : Int := (w64 (t30_2 - t33_2))
  let t35_2 : Int := (w64 (t34_2 + (-259200 : Int)))
  let t38_2 : Int := (w64 (t35_2 - t24_8))
  (week_TimesOf_l2_x N s1 t38_2 s20 s21 t24_6 t24_7 t24_8 l9 l19).bind fun q2_2 =>
  let t70_2 : Int := (w64 (q2_2.2.2.1 + (1 : Int)))
  some (.inl (q2_2.1, q2_2.2.1, t70_2, q2_2.2.2.2.1, q2_2.2.2.2.2))) none) (
  some (.inr l9))

theorem week_TimesOf_l0_step_le (N : Nat) (s1 : Tn2) (s20 : Int) (s21 : Int) (l9 : Tn2) (l19 : Tn15) : OLe (week_TimesOf_l0_step_x N s1 s20 s21 l9 l19) (week_TimesOf_l0_step s1 s20 s21 l9 l19) := by
  unfold week_TimesOf_l0_step_x week_TimesOf_l0_step
  with_reducible repeat' (first | exact OLe.refl _ | exact OLe.none _ | exact week_TimesOf_l2_le N _ _ _ _ _ _ _ _ _ | apply OLe.cond | apply OLe.sumC | refine OLe.bind ?_ ?_ | intro _)

def week_TimesOf_l0_x (N : Nat) (s1 : Tn2) (s20 : Int) (s21 : Int) (l9 : Tn2) (l19 : Tn15) : Option (Tn2) :=
  loopN (unc5 (week_TimesOf_l0_step_x N)) N (s1, s20, s21, l9, l19)

theorem week_TimesOf_l0_le (N : Nat) (s1 : Tn2) (s20 : Int) (s21 : Int) (l9 : Tn2) (l19 : Tn15) : OLe (week_TimesOf_l0_x N s1 s20 s21 l9 l19) (week_TimesOf_l0 s1 s20 s21 l9 l19) := OLe.loop N _ fun h => week_TimesOf_l0_step_le N _ _ _ _ _

def week_TimesOf_x (N : Nat) (a0_b : Tn14) (a1_l : Tn2) (a2_from : Int) (a3_to : Int) : Option (Tn2) :=
  (zone_Table_Pieces_x N (a0_b.1, a0_b.2) a2_from a3_to).bind fun r19 =>
  let t20 : Int := (Int.ofNat (List.length r19))
  (week_TimesOf_l0_x N a1_l t20 (0 : Int) ([] : Tn2) r19).bind fun q0 =>
  (span_Merge_x N q0).bind fun r72 =>
  some r72

theorem week_TimesOf_le (N : Nat) (a0_b : Tn14) (a1_l : Tn2) (a2_from : Int) (a3_to : Int) : OLe (week_TimesOf_x N a0_b a1_l a2_from a3_to) (week_TimesOf a0_b a1_l a2_from a3_to) := by
  unfold week_TimesOf_x week_TimesOf
  with_reducible repeat' (first | exact OLe.refl _ | exact OLe.none _ | exact zone_Table_Pieces_le N _ _ _ | exact week_TimesOf_l0_le N _ _ _ _ _ | exact span_Merge_le N _ | apply OLe.cond | apply OLe.sumC | refine OLe.bind ?_ ?_ | intro _)

def duty_View_days_l2_x (N : Nat) (s24 : Int) (s25 : Int) (s30 : (List Int)) (s31 : Int) (s32 : Int) (b5 : ByteArray) (b5_1 : Int) (b5_2 : (List Int)) (b11 : Int) (b11_1 : Int) (b11_2 : Int) (l9 : Tn2) (l23 : Tn15) : Option ((Int × Int × ByteArray × Int × (List Int) × Tn2 × Tn15)) :=
  loopN (unc13 (duty_View_days_l2_step)) N (s24, s25, s30, s31, s32, b5, b5_1, b5_2, b11, b11_1, b11_2, l9, l23)

theorem duty_View_days_l2_le (N : Nat) (s24 : Int) (s25 : Int) (s30 : (List Int)) (s31 : Int) (s32 : Int) (b5 : ByteArray) (b5_1 : Int) (b5_2 : (List Int)) (b11 : Int) (b11_1 : Int) (b11_2 : Int) (l9 : Tn2) (l23 : Tn15) : OLe (duty_View_days_l2_x N s24 s25 s30 s31 s32 b5 b5_1 b5_2 b11 b11_1 b11_2 l9 l23) (duty_View_days_l2 s24 s25 s30 s31 s32 b5 b5_1 b5_2 b11 b11_1 b11_2 l9 l23) := OLe.loop N _ fun h => OLe.refl _

def duty_View_days_l0_step_x (N : Nat) (s24 : Int) (s25 : Int) (b5 : ByteArray) (b5_1 : Int) (b5_2 : (List Int)) (l9 : Tn2) (l23 : Tn15) : Option ((Int × Int × ByteArray × Int × (List Int) × Tn2 × Tn15) ⊕ (Tn2)) :=
  cond (decide (s25 < s24)) (
  cond (inR s25 (List.length l23)) (
  let t28_6 : Int := (List.getD l23 (Int.toNat s25) ((0 : Int), ((0 : Int), (0 : Int)))).1
  let t28_7 : Int := (List.getD l23 (Int.toNat s25) ((0 : Int), ((0 : Int), (0 : Int)))).2.1
  let t28_8 : Int := (List.getD l23 (Int.toNat s25) ((0 : Int), ((0 : Int), (0 : Int)))).2.2
  let t31_2 : Int := (Int.ofNat (List.length b5_2))
  (duty_View_days_l2_x N s24 s25 b5_2 t31_2 (0 : Int) b5 b5_1 b5_2 t28_6 t28_7 t28_8 l9 l23).bind fun q2_2 =>
  let t55_2 : Int := (w64 (q2_2.2.1 + (1 : Int)))
  some (.inl (q2_2.1, t55_2, q2_2.2.2.1, q2_2.2.2.2.1, q2_2.2.2.2.2.1, q2_2.2.2.2.2.2.1, q2_2.2.2.2.2.2.2))) none) (
  some (.inr l9))

theorem duty_View_days_l0_step_le (N : Nat) (s24 : Int) (s25 : Int) (b5 : ByteArray) (b5_1 : Int) (b5_2 : (List Int)) (l9 : Tn2) (l23 : Tn15) : OLe (duty_View_days_l0_step_x N s24 s25 b5 b5_1 b5_2 l9 l23) (duty_View_days_l0_step s24 s25 b5 b5_1 b5_2 l9 l23) := by
  unfold duty_View_days_l0_step_x duty_View_days_l0_step
  with_reducible repeat' (first | exact OLe.refl _ | exact OLe.none _ | exact duty_View_days_l2_le N _ _ _ _ _ _ _ _ _ _ _ _ _ | apply OLe.cond | apply OLe.sumC | refine OLe.bind ?_ ?_ | intro _)

def duty_View_days_l0_x (N : Nat) (s24 : Int) (s25 : Int) (b5 : ByteArray) (b5_1 : Int) (b5_2 : (List Int)) (l9 : Tn2) (l23 : Tn15) : Option (Tn2) :=
  loopN (unc7 (duty_View_days_l0_step_x N)) N (s24, s25, b5, b5_1, b5_2, l9, l23)

theorem duty_View_days_l0_le (N : Nat) (s24 : Int) (s25 : Int) (b5 : ByteArray) (b5_1 : Int) (b5_2 : (List Int)) (l9 : Tn2) (l23 : Tn15) : OLe (duty_View_days_l0_x N s24 s25 b5 b5_1 b5_2 l9 l23) (duty_View_days_l0 s24 s25 b5 b5_1 b5_2 l9 l23) := OLe.loop N _ fun h => duty_View_days_l0_step_le N _ _ _ _ _ _ _

def duty_View_days_x (N : Nat) (a0_v : Tn76) (a1_c : Tn20) (a2_from : Int) (a3_to : Int) : Option (Tn2) :=
  cond (inR a1_c.2.1 (List.length a0_v.2)) (
  let t19 : Tn14 := (List.getD a0_v.2 (Int.toNat a1_c.2.1) ((0 : Int), ([] : Tn2)))
  (zone_Table_Pieces_x N (t19.1, t19.2) a2_from a3_to).bind fun r23 =>
  let t24 : Int := (Int.ofNat (List.length r23))
  (duty_View_days_l0_x N t24 (0 : Int) a1_c.1 a1_c.2.1 a1_c.2.2 ([] : Tn2) r23).bind fun q0 =>
  (span_Merge_x N q0).bind fun r57 =>
  some r57) none

theorem duty_View_days_le (N : Nat) (a0_v : Tn76) (a1_c : Tn20) (a2_from : Int) (a3_to : Int) : OLe (duty_View_days_x N a0_v a1_c a2_from a3_to) (duty_View_days a0_v a1_c a2_from a3_to) := by
  unfold duty_View_days_x duty_View_days
  with_reducible repeat' (first | exact OLe.refl _ | exact OLe.none _ | exact zone_Table_Pieces_le N _ _ _ | exact duty_View_days_l0_le N _ _ _ _ _ _ _ | exact span_Merge_le N _ | apply OLe.cond | apply OLe.sumC | refine OLe.bind ?_ ?_ | intro _)

def span_Without_l2_x (N : Nat) (s1 : Tn2) (s6 : Int) (s11 : Tn2) (s12 : Int) (s13 : Int) (b8 : Int) (b8_1 : Int) (l5 : Tn2) : Option ((Tn2 × Int × Tn2 × Int × Int × Int × Int × Tn2)) :=
  loopN (unc8 (span_Without_l2_step)) N (s1, s6, s11, s12, s13, b8, b8_1, l5)

theorem span_Without_l2_le (N : Nat) (s1 : Tn2) (s6 : Int) (s11 : Tn2) (s12 : Int) (s13 : Int) (b8 : Int) (b8_1 : Int) (l5 : Tn2) : OLe (span_Without_l2_x N s1 s6 s11 s12 s13 b8 b8_1 l5) (span_Without_l2 s1 s6 s11 s12 s13 b8 b8_1 l5) := OLe.loop N _ fun h => OLe.refl _

def span_Without_l4_x (N : Nat) (s1 : Tn2) (s6 : Int) (s9 : Int) (s10 : Int) (s11 : Tn2) (s12 : Int) (s13 : Int) (b8 : Int) (b8_1 : Int) (l5 : Tn2) : Option ((Tn2 × Int × Int × Tn2 × Int × Int × Int × Int × Tn2)) :=
  loopN (unc10 (span_Without_l4_step)) N (s1, s6, s9, s10, s11, s12, s13, b8, b8_1, l5)

theorem span_Without_l4_le (N : Nat) (s1 : Tn2) (s6 : Int) (s9 : Int) (s10 : Int) (s11 : Tn2) (s12 : Int) (s13 : Int) (b8 : Int) (b8_1 : Int) (l5 : Tn2) : OLe (span_Without_l4_x N s1 s6 s9 s10 s11 s12 s13 b8 b8_1 l5) (span_Without_l4 s1 s6 s9 s10 s11 s12 s13 b8 b8_1 l5) := OLe.loop N _ fun h => OLe.refl _

def span_Without_l0_step_x (N : Nat) (s1 : Tn2) (s6 : Int) (s11 : Tn2) (s12 : Int) (s13 : Int) (l5 : Tn2) : Option ((Tn2 × Int × Tn2 × Int × Int × Tn2) ⊕ (Tn2)) :=
  cond (decide (s13 < s12)) (
  cond (inR s13 (List.length s11)) (
  let t15_2 : (Int × Int) := (List.getD s11 (Int.toNat s13) ((0 : Int), (0 : Int)))
  (span_Without_l2_x N s1 s6 s11 s12 s13 t15_2.1 t15_2.2 l5).bind fun q2_2 =>
  (span_Without_l4_x N q2_2.1 q2_2.2.1 q2_2.2.2.2.2.2.1 q2_2.2.1 q2_2.2.2.1 q2_2.2.2.2.1 q2_2.2.2.2.2.1 q2_2.2.2.2.2.2.1 q2_2.2.2.2.2.2.2.1 q2_2.2.2.2.2.2.2.2).bind fun q4_2 =>
  cond (decide (q4_2.2.2.1 < q4_2.2.2.2.2.2.2.2.1)) (
  let t85_2 : Tn2 := [(q4_2.2.2.1, q4_2.2.2.2.2.2.2.2.1)]
  cond (decide (List.length q4_2.2.2.2.2.2.2.2.2 + List.length t85_2 ≤ sizeMax)) (
  let t86_2 : Tn2 := (q4_2.2.2.2.2.2.2.2.2 ++ t85_2)
  let t87_4 : Int := (w64 (q4_2.2.2.2.2.2.1 + (1 : Int)))
  some (.inl (q4_2.1, q4_2.2.1, q4_2.2.2.2.1, q4_2.2.2.2.2.1, t87_4, t86_2))) none) (
  let t87_5 : Int := (w64 (q4_2.2.2.2.2.2.1 + (1 : Int)))
  some (.inl (q4_2.1, q4_2.2.1, q4_2.2.2.2.1, q4_2.2.2.2.2.1, t87_5, q4_2.2.2.2.2.2.2.2.2)))) none) (
  some (.inr l5))

theorem span_Without_l0_step_le (N : Nat) (s1 : Tn2) (s6 : Int) (s11 : Tn2) (s12 : Int) (s13 : Int) (l5 : Tn2) : OLe (span_Without_l0_step_x N s1 s6 s11 s12 s13 l5) (span_Without_l0_step s1 s6 s11 s12 s13 l5) := by
  unfold span_Without_l0_step_x span_Without_l0_step
  with_reducible repeat' (first | exact OLe.refl _ | exact OLe.none _ | exact span_Without_l2_le N _ _ _ _ _ _ _ _ | exact span_Without_l4_le N _ _ _ _ _ _ _ _ _ _ | apply OLe.cond | apply OLe.sumC | refine OLe.bind ?_ ?_ | intro _)

def span_Without_l0_x (N : Nat) (s1 : Tn2) (s6 : Int) (s11 : Tn2) (s12 : Int) (s13 : Int) (l5 : Tn2) : Option (Tn2) :=
  loopN (unc6 (span_Without_l0_step_x N)) N (s1, s6, s11, s12, s13, l5)

theorem span_Without_l0_le (N : Nat) (s1 : Tn2) (s6 : Int) (s11 : Tn2) (s12 : Int) (s13 : Int) (l5 : Tn2) : OLe (span_Without_l0_x N s1 s6 s11 s12 s13 l5) (span_Without_l0 s1 s6 s11 s12 s13 l5) := OLe.loop N _ fun h => span_Without_l0_step_le N _ _ _ _ _ _

def span_Without_x (N : Nat) (a0_a : Tn2) (a1_b : Tn2) : Option (Tn2) :=
  let t12 : Int := (Int.ofNat (List.length a0_a))
  (span_Without_l0_x N a1_b (0 : Int) a0_a t12 (0 : Int) ([] : Tn2)).bind fun q0 =>
  some q0

theorem span_Without_le (N : Nat) (a0_a : Tn2) (a1_b : Tn2) : OLe (span_Without_x N a0_a a1_b) (span_Without a0_a a1_b) := by
  unfold span_Without_x span_Without
  with_reducible repeat' (first | exact OLe.refl _ | exact OLe.none _ | exact span_Without_l0_le N _ _ _ _ _ _ | apply OLe.cond | apply OLe.sumC | refine OLe.bind ?_ ?_ | intro _)

def span_Common_l0_x (N : Nat) (s0 : Tn2) (s1 : Tn2) (s6 : Int) (s7 : Int) (l5 : Tn2) : Option (Tn2) :=
  loopN (unc5 (span_Common_l0_step)) N (s0, s1, s6, s7, l5)

theorem span_Common_l0_le (N : Nat) (s0 : Tn2) (s1 : Tn2) (s6 : Int) (s7 : Int) (l5 : Tn2) : OLe (span_Common_l0_x N s0 s1 s6 s7 l5) (span_Common_l0 s0 s1 s6 s7 l5) := OLe.loop N _ fun h => OLe.refl _

def span_Common_x (N : Nat) (a0_a : Tn2) (a1_b : Tn2) : Option (Tn2) :=
  (span_Common_l0_x N a0_a a1_b (0 : Int) (0 : Int) ([] : Tn2)).bind fun q0 =>
  some q0

theorem span_Common_le (N : Nat) (a0_a : Tn2) (a1_b : Tn2) : OLe (span_Common_x N a0_a a1_b) (span_Common a0_a a1_b) := by
  unfold span_Common_x span_Common
  with_reducible repeat' (first | exact OLe.refl _ | exact OLe.none _ | exact span_Common_l0_le N _ _ _ _ _ | apply OLe.cond | apply OLe.sumC | refine OLe.bind ?_ ?_ | intro _)

def duty_View_Times_x (N : Nat) (a0_v : Tn76) (a1_l : Tn62) (a2_from : Int) (a3_to : Int) : Option (Tn2) :=
  cond (inR a1_l.2.1 (List.length a0_v.2)) (
  let t17 : Tn14 := (List.getD a0_v.2 (Int.toNat a1_l.2.1) ((0 : Int), ([] : Tn2)))
  (recur_HandoverOf_x N (t17.1, t17.2) (a1_l.1, (a1_l.2.1, ((a1_l.2.2.1.1, a1_l.2.2.1.2), (a1_l.2.2.2.1, (a1_l.2.2.2.2.1, (a1_l.2.2.2.2.2.1, (a1_l.2.2.2.2.2.2.1, (a1_l.2.2.2.2.2.2.2.1, a1_l.2.2.2.2.2.2.2.2)))))))) (0 : Int)).bind fun r20 =>
  cond (cond (cond (!r20.2) true (decide (r20.1 ≥ a3_to))) true (decide (a2_from ≥ a3_to))) (
  some ([] : Tn2)) (
  let t37 : Int := (if r20.1 > a2_from then r20.1 else a2_from : Int)
  let t41 : Tn2 := [(t37, a3_to)]
  let t44 : Int := (Int.ofNat (List.length a1_l.2.2.2.2.2.2.1))
  cond (decide (t44 > (0 : Int))) (
  cond (inR a1_l.2.1 (List.length a0_v.2)) (
  let t50 : Tn14 := (List.getD a0_v.2 (Int.toNat a1_l.2.1) ((0 : Int), ([] : Tn2)))
  (week_TimesOf_x N (t50.1, t50.2) a1_l.2.2.2.2.2.2.1 t37 a3_to).bind fun r56 =>
  cond (a1_l.2.2.2.2.2.2.2.2 == (1 : Int)) (
  cond (inR a1_l.2.2.2.2.2.2.2.1 (List.length a0_v.1.2.2.1)) (
  let t68 : Tn20 := (List.getD a0_v.1.2.2.1 (Int.toNat a1_l.2.2.2.2.2.2.2.1) (ByteArray.empty, ((0 : Int), ([] : (List Int)))))
  (duty_View_days_x N ((a0_v.1.1, (a0_v.1.2.1, (a0_v.1.2.2.1, a0_v.1.2.2.2))), a0_v.2) (t68.1, (t68.2.1, t68.2.2)) t37 a3_to).bind fun r72 =>
  (span_Without_x N r56 r72).bind fun r73 =>
  some r73) none) (
  cond (a1_l.2.2.2.2.2.2.2.2 == (2 : Int)) (
  cond (inR a1_l.2.2.2.2.2.2.2.1 (List.length a0_v.1.2.2.1)) (
  let t83 : Tn20 := (List.getD a0_v.1.2.2.1 (Int.toNat a1_l.2.2.2.2.2.2.2.1) (ByteArray.empty, ((0 : Int), ([] : (List Int)))))
  (duty_View_days_x N ((a0_v.1.1, (a0_v.1.2.1, (a0_v.1.2.2.1, a0_v.1.2.2.2))), a0_v.2) (t83.1, (t83.2.1, t83.2.2)) t37 a3_to).bind fun r87 =>
  (span_Common_x N r56 r87).bind fun r88 =>
  some r88) none) (
  some r56))) none) (
  cond (a1_l.2.2.2.2.2.2.2.2 == (1 : Int)) (
  cond (inR a1_l.2.2.2.2.2.2.2.1 (List.length a0_v.1.2.2.1)) (
  let t68_1 : Tn20 := (List.getD a0_v.1.2.2.1 (Int.toNat a1_l.2.2.2.2.2.2.2.1) (ByteArray.empty, ((0 : Int), ([] : (List Int)))))
  (duty_View_days_x N ((a0_v.1.1, (a0_v.1.2.1, (a0_v.1.2.2.1, a0_v.1.2.2.2))), a0_v.2) (t68_1.1, (t68_1.2.1, t68_1.2.2)) t37 a3_to).bind fun r72_1 =>
  (span_Without_x N t41 r72_1).bind fun r73_1 =>
  some r73_1) none) (
  cond (a1_l.2.2.2.2.2.2.2.2 == (2 : Int)) (
  cond (inR a1_l.2.2.2.2.2.2.2.1 (List.length a0_v.1.2.2.1)) (
  let t83_1 : Tn20 := (List.getD a0_v.1.2.2.1 (Int.toNat a1_l.2.2.2.2.2.2.2.1) (ByteArray.empty, ((0 : Int), ([] : (List Int)))))
  (duty_View_days_x N ((a0_v.1.1, (a0_v.1.2.1, (a0_v.1.2.2.1, a0_v.1.2.2.2))), a0_v.2) (t83_1.1, (t83_1.2.1, t83_1.2.2)) t37 a3_to).bind fun r87_1 =>
  (span_Common_x N t41 r87_1).bind fun r88_1 =>
  some r88_1) none) (
  some t41))))) none

theorem duty_View_Times_le (N : Nat) (a0_v : Tn76) (a1_l : Tn62) (a2_from : Int) (a3_to : Int) : OLe (duty_View_Times_x N a0_v a1_l a2_from a3_to) (duty_View_Times a0_v a1_l a2_from a3_to) := by
  unfold duty_View_Times_x duty_View_Times
  with_reducible repeat' (first | exact OLe.refl _ | exact OLe.none _ | exact recur_HandoverOf_le N _ _ _ | exact week_TimesOf_le N _ _ _ _ | exact duty_View_days_le N _ _ _ _ | exact span_Without_le N _ _ | exact span_Common_le N _ _ | apply OLe.cond | apply OLe.sumC | refine OLe.bind ?_ ?_ | intro _)

def zone_Table_Offset_x (N : Nat) (a0_b : Tn14) (a1_t : Int) : Option (Int) :=
  (zone_Table_after_x N (a0_b.1, a0_b.2) a1_t).bind fun r8 =>
  (zone_Table_before (a0_b.1, a0_b.2) r8).bind fun r9 =>
  some r9

theorem zone_Table_Offset_le (N : Nat) (a0_b : Tn14) (a1_t : Int) : OLe (zone_Table_Offset_x N a0_b a1_t) (zone_Table_Offset a0_b a1_t) := by
  unfold zone_Table_Offset_x zone_Table_Offset
  with_reducible repeat' (first | exact OLe.refl _ | exact OLe.none _ | exact zone_Table_after_le N _ _ | apply OLe.cond | apply OLe.sumC | refine OLe.bind ?_ ?_ | intro _)

def zone_Table_Local_x (N : Nat) (a0_b : Tn14) (a1_t : Int) : Option ((Int × Int)) :=
  (zone_Table_Offset_x N (a0_b.1, a0_b.2) a1_t).bind fun r8 =>
  let t9 : Int := (w64 (a1_t + r8))
  (zone_local t9).bind fun r10 =>
  some (r10.1, r10.2)

theorem zone_Table_Local_le (N : Nat) (a0_b : Tn14) (a1_t : Int) : OLe (zone_Table_Local_x N a0_b a1_t) (zone_Table_Local a0_b a1_t) := by
  unfold zone_Table_Local_x zone_Table_Local
  with_reducible repeat' (first | exact OLe.refl _ | exact OLe.none _ | exact zone_Table_Offset_le N _ _ | apply OLe.cond | apply OLe.sumC | refine OLe.bind ?_ ?_ | intro _)

def recur_ShiftOf_l0_step_x (N : Nat) (s2 : Int) (s9 : Int) (b3 : Int) (b3_1 : Tn2) (b4 : ByteArray) (b4_1 : Int) (b4_2 : Int) (b4_3 : Int) (b4_4 : Int) (b4_5 : Int) (b4_6 : (List Int)) (b4_7 : Tn2) (b4_8 : Int) (b4_9 : Int) : Option ((Int × Int × Int × Tn2 × ByteArray × Int × Int × Int × Int × Int × (List Int) × Tn2 × Int × Int) ⊕ ((Int × Int × Int × Tn2 × ByteArray × Int × Int × Int × Int × Int × (List Int) × Tn2 × Int × Int))) :=
  cond (decide (s9 > (0 : Int))) (
  (recur_HandoverOf_x N (b3, b3_1) (b4, (b4_1, ((b4_2, b4_3), (b4_4, (b4_5, (b4_6, (b4_7, (b4_8, b4_9)))))))) s9).bind fun r55_1 =>
  cond (cond r55_1.2 (decide (r55_1.1 ≤ s2)) false) (
  some (.inr (s2, s9, b3, b3_1, b4, b4_1, b4_2, b4_3, b4_4, b4_5, b4_6, b4_7, b4_8, b4_9))) (
  let t65_1 : Int := (w64 (s9 - (1 : Int)))
  some (.inl (s2, t65_1, b3, b3_1, b4, b4_1, b4_2, b4_3, b4_4, b4_5, b4_6, b4_7, b4_8, b4_9)))) (
  some (.inr (s2, s9, b3, b3_1, b4, b4_1, b4_2, b4_3, b4_4, b4_5, b4_6, b4_7, b4_8, b4_9)))

theorem recur_ShiftOf_l0_step_le (N : Nat) (s2 : Int) (s9 : Int) (b3 : Int) (b3_1 : Tn2) (b4 : ByteArray) (b4_1 : Int) (b4_2 : Int) (b4_3 : Int) (b4_4 : Int) (b4_5 : Int) (b4_6 : (List Int)) (b4_7 : Tn2) (b4_8 : Int) (b4_9 : Int) : OLe (recur_ShiftOf_l0_step_x N s2 s9 b3 b3_1 b4 b4_1 b4_2 b4_3 b4_4 b4_5 b4_6 b4_7 b4_8 b4_9) (recur_ShiftOf_l0_step s2 s9 b3 b3_1 b4 b4_1 b4_2 b4_3 b4_4 b4_5 b4_6 b4_7 b4_8 b4_9) := by
  unfold recur_ShiftOf_l0_step_x recur_ShiftOf_l0_step
  with_reducible repeat' (first | exact OLe.refl _ | exact OLe.none _ | exact recur_HandoverOf_le N _ _ _ | apply OLe.cond | apply OLe.sumC | refine OLe.bind ?_ ?_ | intro _)

def recur_ShiftOf_l0_x (N : Nat) (s2 : Int) (s9 : Int) (b3 : Int) (b3_1 : Tn2) (b4 : ByteArray) (b4_1 : Int) (b4_2 : Int) (b4_3 : Int) (b4_4 : Int) (b4_5 : Int) (b4_6 : (List Int)) (b4_7 : Tn2) (b4_8 : Int) (b4_9 : Int) : Option ((Int × Int × Int × Tn2 × ByteArray × Int × Int × Int × Int × Int × (List Int) × Tn2 × Int × Int)) :=
  loopN (fun h : Int × Int × Int × Tn2 × ByteArray × Int × Int × Int × Int × Int × (List Int) × Tn2 × Int × Int => recur_ShiftOf_l0_step_x N h.1 h.2.1 h.2.2.1 h.2.2.2.1 h.2.2.2.2.1 h.2.2.2.2.2.1 h.2.2.2.2.2.2.1 h.2.2.2.2.2.2.2.1 h.2.2.2.2.2.2.2.2.1 h.2.2.2.2.2.2.2.2.2.1 h.2.2.2.2.2.2.2.2.2.2.1 h.2.2.2.2.2.2.2.2.2.2.2.1 h.2.2.2.2.2.2.2.2.2.2.2.2.1 h.2.2.2.2.2.2.2.2.2.2.2.2.2) N (s2, s9, b3, b3_1, b4, b4_1, b4_2, b4_3, b4_4, b4_5, b4_6, b4_7, b4_8, b4_9)

theorem recur_ShiftOf_l0_le (N : Nat) (s2 : Int) (s9 : Int) (b3 : Int) (b3_1 : Tn2) (b4 : ByteArray) (b4_1 : Int) (b4_2 : Int) (b4_3 : Int) (b4_4 : Int) (b4_5 : Int) (b4_6 : (List Int)) (b4_7 : Tn2) (b4_8 : Int) (b4_9 : Int) : OLe (recur_ShiftOf_l0_x N s2 s9 b3 b3_1 b4 b4_1 b4_2 b4_3 b4_4 b4_5 b4_6 b4_7 b4_8 b4_9) (recur_ShiftOf_l0 s2 s9 b3 b3_1 b4 b4_1 b4_2 b4_3 b4_4 b4_5 b4_6 b4_7 b4_8 b4_9) := OLe.loop N _ fun h => recur_ShiftOf_l0_step_le N _ _ _ _ _ _ _ _ _ _ _ _ _ _

def recur_ShiftOf_l2_step_x (N : Nat) (s2 : Int) (s9 : Int) (b3 : Int) (b3_1 : Tn2) (b4 : ByteArray) (b4_1 : Int) (b4_2 : Int) (b4_3 : Int) (b4_4 : Int) (b4_5 : Int) (b4_6 : (List Int)) (b4_7 : Tn2) (b4_8 : Int) (b4_9 : Int) : Option ((Int × Int × Int × Tn2 × ByteArray × Int × Int × Int × Int × Int × (List Int) × Tn2 × Int × Int) ⊕ (Int)) :=
  let t70_1 : Int := (w64 (s9 + (1 : Int)))
  (recur_HandoverOf_x N (b3, b3_1) (b4, (b4_1, ((b4_2, b4_3), (b4_4, (b4_5, (b4_6, (b4_7, (b4_8, b4_9)))))))) t70_1).bind fun r71_1 =>
  cond (cond (!r71_1.2) true (decide (r71_1.1 > s2))) (
  some (.inr s9)) (
  let t83_1 : Int := (w64 (s9 + (1 : Int)))
  some (.inl (s2, t83_1, b3, b3_1, b4, b4_1, b4_2, b4_3, b4_4, b4_5, b4_6, b4_7, b4_8, b4_9)))

theorem recur_ShiftOf_l2_step_le (N : Nat) (s2 : Int) (s9 : Int) (b3 : Int) (b3_1 : Tn2) (b4 : ByteArray) (b4_1 : Int) (b4_2 : Int) (b4_3 : Int) (b4_4 : Int) (b4_5 : Int) (b4_6 : (List Int)) (b4_7 : Tn2) (b4_8 : Int) (b4_9 : Int) : OLe (recur_ShiftOf_l2_step_x N s2 s9 b3 b3_1 b4 b4_1 b4_2 b4_3 b4_4 b4_5 b4_6 b4_7 b4_8 b4_9) (recur_ShiftOf_l2_step s2 s9 b3 b3_1 b4 b4_1 b4_2 b4_3 b4_4 b4_5 b4_6 b4_7 b4_8 b4_9) := by
  unfold recur_ShiftOf_l2_step_x recur_ShiftOf_l2_step
  with_reducible repeat' (first | exact OLe.refl _ | exact OLe.none _ | exact recur_HandoverOf_le N _ _ _ | apply OLe.cond | apply OLe.sumC | refine OLe.bind ?_ ?_ | intro _)

def recur_ShiftOf_l2_x (N : Nat) (s2 : Int) (s9 : Int) (b3 : Int) (b3_1 : Tn2) (b4 : ByteArray) (b4_1 : Int) (b4_2 : Int) (b4_3 : Int) (b4_4 : Int) (b4_5 : Int) (b4_6 : (List Int)) (b4_7 : Tn2) (b4_8 : Int) (b4_9 : Int) : Option (Int) :=
  loopN (fun h : Int × Int × Int × Tn2 × ByteArray × Int × Int × Int × Int × Int × (List Int) × Tn2 × Int × Int => recur_ShiftOf_l2_step_x N h.1 h.2.1 h.2.2.1 h.2.2.2.1 h.2.2.2.2.1 h.2.2.2.2.2.1 h.2.2.2.2.2.2.1 h.2.2.2.2.2.2.2.1 h.2.2.2.2.2.2.2.2.1 h.2.2.2.2.2.2.2.2.2.1 h.2.2.2.2.2.2.2.2.2.2.1 h.2.2.2.2.2.2.2.2.2.2.2.1 h.2.2.2.2.2.2.2.2.2.2.2.2.1 h.2.2.2.2.2.2.2.2.2.2.2.2.2) N (s2, s9, b3, b3_1, b4, b4_1, b4_2, b4_3, b4_4, b4_5, b4_6, b4_7, b4_8, b4_9)

theorem recur_ShiftOf_l2_le (N : Nat) (s2 : Int) (s9 : Int) (b3 : Int) (b3_1 : Tn2) (b4 : ByteArray) (b4_1 : Int) (b4_2 : Int) (b4_3 : Int) (b4_4 : Int) (b4_5 : Int) (b4_6 : (List Int)) (b4_7 : Tn2) (b4_8 : Int) (b4_9 : Int) : OLe (recur_ShiftOf_l2_x N s2 s9 b3 b3_1 b4 b4_1 b4_2 b4_3 b4_4 b4_5 b4_6 b4_7 b4_8 b4_9) (recur_ShiftOf_l2 s2 s9 b3 b3_1 b4 b4_1 b4_2 b4_3 b4_4 b4_5 b4_6 b4_7 b4_8 b4_9) := OLe.loop N _ fun h => recur_ShiftOf_l2_step_le N _ _ _ _ _ _ _ _ _ _ _ _ _ _

def recur_ShiftOf_x (N : Nat) (a0_b : Tn14) (a1_l : Tn62) (a2_t : Int) : Option (Int) :=
  (recur_HandoverOf_x N (a0_b.1, a0_b.2) (a1_l.1, (a1_l.2.1, ((a1_l.2.2.1.1, a1_l.2.2.1.2), (a1_l.2.2.2.1, (a1_l.2.2.2.2.1, (a1_l.2.2.2.2.2.1, (a1_l.2.2.2.2.2.2.1, (a1_l.2.2.2.2.2.2.2.1, a1_l.2.2.2.2.2.2.2.2)))))))) (0 : Int)).bind fun r17 =>
  cond (cond (!r17.2) true (decide (r17.1 > a2_t))) (
  some (-1 : Int)) (
  cond (a1_l.2.2.2.1 == (0 : Int)) (
  let t32 : Int := (w64 (a2_t - r17.1))
  let t35 : Int := (w64 ((3600 : Int) * a1_l.2.2.2.2.1))
  cond (!(t35 == 0)) (
  let t36 : Int := (w64 (Int.tdiv t32 t35))
  some t36) none) (
  (zone_Table_Local_x N (a0_b.1, a0_b.2) a2_t).bind fun r39 =>
  let t44 : Int := (w64 (r39.1 - a1_l.2.2.1.1))
  (recur_step (a1_l.1, (a1_l.2.1, ((a1_l.2.2.1.1, a1_l.2.2.1.2), (a1_l.2.2.2.1, (a1_l.2.2.2.2.1, (a1_l.2.2.2.2.2.1, (a1_l.2.2.2.2.2.2.1, (a1_l.2.2.2.2.2.2.2.1, a1_l.2.2.2.2.2.2.2.2))))))))).bind fun r46 =>
  cond (!(r46 == 0)) (
  let t47 : Int := (w64 (Int.tdiv t44 r46))
  let t48 : Int := (if t47 > (0 : Int) then t47 else (0 : Int) : Int)
  (recur_ShiftOf_l0_x N a2_t t48 a0_b.1 a0_b.2 a1_l.1 a1_l.2.1 a1_l.2.2.1.1 a1_l.2.2.1.2 a1_l.2.2.2.1 a1_l.2.2.2.2.1 a1_l.2.2.2.2.2.1 a1_l.2.2.2.2.2.2.1 a1_l.2.2.2.2.2.2.2.1 a1_l.2.2.2.2.2.2.2.2).bind fun q0 =>
  (recur_ShiftOf_l2_x N q0.1 q0.2.1 q0.2.2.1 q0.2.2.2.1 q0.2.2.2.2.1 q0.2.2.2.2.2.1 q0.2.2.2.2.2.2.1 q0.2.2.2.2.2.2.2.1 q0.2.2.2.2.2.2.2.2.1 q0.2.2.2.2.2.2.2.2.2.1 q0.2.2.2.2.2.2.2.2.2.2.1 q0.2.2.2.2.2.2.2.2.2.2.2.1 q0.2.2.2.2.2.2.2.2.2.2.2.2.1 q0.2.2.2.2.2.2.2.2.2.2.2.2.2).bind fun q2 =>
  some q2) none))

theorem recur_ShiftOf_le (N : Nat) (a0_b : Tn14) (a1_l : Tn62) (a2_t : Int) : OLe (recur_ShiftOf_x N a0_b a1_l a2_t) (recur_ShiftOf a0_b a1_l a2_t) := by
  unfold recur_ShiftOf_x recur_ShiftOf
  with_reducible repeat' (first | exact OLe.refl _ | exact OLe.none _ | exact recur_HandoverOf_le N _ _ _ | exact zone_Table_Local_le N _ _ | exact recur_ShiftOf_l0_le N _ _ _ _ _ _ _ _ _ _ _ _ _ _ | exact recur_ShiftOf_l2_le N _ _ _ _ _ _ _ _ _ _ _ _ _ _ | apply OLe.cond | apply OLe.sumC | refine OLe.bind ?_ ?_ | intro _)

def duty_Merge_l0_x (N : Nat) (s7 : Tn15) (s8 : Int) (s9 : Int) (l3 : Tn15) : Option (Tn15) :=
  loopN (unc4 (duty_Merge_l0_step)) N (s7, s8, s9, l3)

theorem duty_Merge_l0_le (N : Nat) (s7 : Tn15) (s8 : Int) (s9 : Int) (l3 : Tn15) : OLe (duty_Merge_l0_x N s7 s8 s9 l3) (duty_Merge_l0 s7 s8 s9 l3) := OLe.loop N _ fun h => OLe.refl _

def duty_Merge_x (N : Nat) (a0_l : Tn15) : Option (Tn15) :=
  let t8 : Int := (Int.ofNat (List.length a0_l))
  (duty_Merge_l0_x N a0_l t8 (0 : Int) ([] : Tn15)).bind fun q0 =>
  some q0

theorem duty_Merge_le (N : Nat) (a0_l : Tn15) : OLe (duty_Merge_x N a0_l) (duty_Merge a0_l) := by
  unfold duty_Merge_x duty_Merge
  with_reducible repeat' (first | exact OLe.refl _ | exact OLe.none _ | exact duty_Merge_l0_le N _ _ _ _ | apply OLe.cond | apply OLe.sumC | refine OLe.bind ?_ ?_ | intro _)

def duty_View_Segments_l2_step_x (N : Nat) (s3 : Int) (s11 : Int) (s12 : Int) (s13 : Int) (s31 : Int) (s32 : Int) (b5 : ByteArray) (b5_1 : Int) (b5_2 : Int) (b5_3 : Int) (b5_4 : Int) (b5_5 : Int) (b5_6 : (List Int)) (b5_7 : Tn2) (b5_8 : Int) (b5_9 : Int) (b10 : Int) (b10_1 : Tn2) (b15 : Int) (b15_1 : Int) (l9 : Tn15) (l30 : Tn2) : Option ((Int × Int × Int × Int × Int × Int × ByteArray × Int × Int × Int × Int × Int × (List Int) × Tn2 × Int × Int × Int × Tn2 × Int × Int × Tn15 × Tn2) ⊕ ((Int × Int × Int × Int × Int × Int × ByteArray × Int × Int × Int × Int × Int × (List Int) × Tn2 × Int × Int × Int × Tn2 × Tn15 × Tn2))) :=
  cond (decide (s11 < b15_1)) (
  cond (decide (s11 ≥ s13)) (
  (recur_ShiftOf_x N (b10, b10_1) (b5, (b5_1, ((b5_2, b5_3), (b5_4, (b5_5, (b5_6, (b5_7, (b5_8, b5_9)))))))) s11).bind fun r55_3 =>
  let t60_3 : Int := (w64 (r55_3 + (1 : Int)))
  (recur_HandoverOf_x N (b10, b10_1) (b5, (b5_1, ((b5_2, b5_3), (b5_4, (b5_5, (b5_6, (b5_7, (b5_8, b5_9)))))))) t60_3).bind fun r61_3 =>
  cond (!r61_3.2) (
  let t70_9 : Int := (if (8589934593 : Int) < b15_1 then (8589934593 : Int) else b15_1 : Int)
  let t79_9 : Int := (Int.ofNat (List.length b5_6))
  cond (!(t79_9 == 0)) (
  let t80_9 : Int := (Int.tmod r55_3 t79_9)
  cond (inR t80_9 (List.length b5_6)) (
  let t81_9 : Int := (List.getD b5_6 (Int.toNat t80_9) (0 : Int))
  let t84_9 : Tn15 := [(s11, (t70_9, t81_9))]
  cond (decide (List.length l9 + List.length t84_9 ≤ sizeMax)) (
  let t85_9 : Tn15 := (l9 ++ t84_9)
  some (.inl (s3, t70_9, r55_3, (8589934593 : Int), s31, s32, b5, b5_1, b5_2, b5_3, b5_4, b5_5, b5_6, b5_7, b5_8, b5_9, b10, b10_1, b15, b15_1, t85_9, l30))) none) none) none) (
  let t70_10 : Int := (if r61_3.1 < b15_1 then r61_3.1 else b15_1 : Int)
  let t79_10 : Int := (Int.ofNat (List.length b5_6))
  cond (!(t79_10 == 0)) (
  let t80_10 : Int := (Int.tmod r55_3 t79_10)
  cond (inR t80_10 (List.length b5_6)) (
  let t81_10 : Int := (List.getD b5_6 (Int.toNat t80_10) (0 : Int))
  let t84_10 : Tn15 := [(s11, (t70_10, t81_10))]
  cond (decide (List.length l9 + List.length t84_10 ≤ sizeMax)) (
  let t85_10 : Tn15 := (l9 ++ t84_10)
  some (.inl (s3, t70_10, r55_3, r61_3.1, s31, s32, b5, b5_1, b5_2, b5_3, b5_4, b5_5, b5_6, b5_7, b5_8, b5_9, b10, b10_1, b15, b15_1, t85_10, l30))) none) none) none)) (
  let t70_11 : Int := (if s13 < b15_1 then s13 else b15_1 : Int)
  let t79_11 : Int := (Int.ofNat (List.length b5_6))
  cond (!(t79_11 == 0)) (
  let t80_11 : Int := (Int.tmod s12 t79_11)
  cond (inR t80_11 (List.length b5_6)) (
  let t81_11 : Int := (List.getD b5_6 (Int.toNat t80_11) (0 : Int))
  let t84_11 : Tn15 := [(s11, (t70_11, t81_11))]
  cond (decide (List.length l9 + List.length t84_11 ≤ sizeMax)) (
  let t85_11 : Tn15 := (l9 ++ t84_11)
  some (.inl (s3, t70_11, s12, s13, s31, s32, b5, b5_1, b5_2, b5_3, b5_4, b5_5, b5_6, b5_7, b5_8, b5_9, b10, b10_1, b15, b15_1, t85_11, l30))) none) none) none)) (
  some (.inr (s3, s11, s12, s13, s31, s32, b5, b5_1, b5_2, b5_3, b5_4, b5_5, b5_6, b5_7, b5_8, b5_9, b10, b10_1, l9, l30)))

theorem duty_View_Segments_l2_step_le (N : Nat) (s3 : Int) (s11 : Int) (s12 : Int) (s13 : Int) (s31 : Int) (s32 : Int) (b5 : ByteArray) (b5_1 : Int) (b5_2 : Int) (b5_3 : Int) (b5_4 : Int) (b5_5 : Int) (b5_6 : (List Int)) (b5_7 : Tn2) (b5_8 : Int) (b5_9 : Int) (b10 : Int) (b10_1 : Tn2) (b15 : Int) (b15_1 : Int) (l9 : Tn15) (l30 : Tn2) : OLe (duty_View_Segments_l2_step_x N s3 s11 s12 s13 s31 s32 b5 b5_1 b5_2 b5_3 b5_4 b5_5 b5_6 b5_7 b5_8 b5_9 b10 b10_1 b15 b15_1 l9 l30) (duty_View_Segments_l2_step s3 s11 s12 s13 s31 s32 b5 b5_1 b5_2 b5_3 b5_4 b5_5 b5_6 b5_7 b5_8 b5_9 b10 b10_1 b15 b15_1 l9 l30) := by
  unfold duty_View_Segments_l2_step_x duty_View_Segments_l2_step
  with_reducible repeat' (first | exact OLe.refl _ | exact OLe.none _ | exact recur_ShiftOf_le N _ _ _ | exact recur_HandoverOf_le N _ _ _ | apply OLe.cond | apply OLe.sumC | refine OLe.bind ?_ ?_ | intro _)

def duty_View_Segments_l2_x (N : Nat) (s3 : Int) (s11 : Int) (s12 : Int) (s13 : Int) (s31 : Int) (s32 : Int) (b5 : ByteArray) (b5_1 : Int) (b5_2 : Int) (b5_3 : Int) (b5_4 : Int) (b5_5 : Int) (b5_6 : (List Int)) (b5_7 : Tn2) (b5_8 : Int) (b5_9 : Int) (b10 : Int) (b10_1 : Tn2) (b15 : Int) (b15_1 : Int) (l9 : Tn15) (l30 : Tn2) : Option ((Int × Int × Int × Int × Int × Int × ByteArray × Int × Int × Int × Int × Int × (List Int) × Tn2 × Int × Int × Int × Tn2 × Tn15 × Tn2)) :=
  loopN (unc22 (duty_View_Segments_l2_step_x N)) N (s3, s11, s12, s13, s31, s32, b5, b5_1, b5_2, b5_3, b5_4, b5_5, b5_6, b5_7, b5_8, b5_9, b10, b10_1, b15, b15_1, l9, l30)

theorem duty_View_Segments_l2_le (N : Nat) (s3 : Int) (s11 : Int) (s12 : Int) (s13 : Int) (s31 : Int) (s32 : Int) (b5 : ByteArray) (b5_1 : Int) (b5_2 : Int) (b5_3 : Int) (b5_4 : Int) (b5_5 : Int) (b5_6 : (List Int)) (b5_7 : Tn2) (b5_8 : Int) (b5_9 : Int) (b10 : Int) (b10_1 : Tn2) (b15 : Int) (b15_1 : Int) (l9 : Tn15) (l30 : Tn2) : OLe (duty_View_Segments_l2_x N s3 s11 s12 s13 s31 s32 b5 b5_1 b5_2 b5_3 b5_4 b5_5 b5_6 b5_7 b5_8 b5_9 b10 b10_1 b15 b15_1 l9 l30) (duty_View_Segments_l2 s3 s11 s12 s13 s31 s32 b5 b5_1 b5_2 b5_3 b5_4 b5_5 b5_6 b5_7 b5_8 b5_9 b10 b10_1 b15 b15_1 l9 l30) := OLe.loop N _ fun h => duty_View_Segments_l2_step_le N _ _ _ _ _ _ _ _ _ _ _ _ _ _ _ _ _ _ _ _ _ _

def duty_View_Segments_l0_step_x (N : Nat) (s3 : Int) (s11 : Int) (s12 : Int) (s13 : Int) (s31 : Int) (s32 : Int) (b5 : ByteArray) (b5_1 : Int) (b5_2 : Int) (b5_3 : Int) (b5_4 : Int) (b5_5 : Int) (b5_6 : (List Int)) (b5_7 : Tn2) (b5_8 : Int) (b5_9 : Int) (b10 : Int) (b10_1 : Tn2) (l9 : Tn15) (l30 : Tn2) : Option ((Int × Int × Int × Int × Int × Int × ByteArray × Int × Int × Int × Int × Int × (List Int) × Tn2 × Int × Int × Int × Tn2 × Tn15 × Tn2) ⊕ ((Int × Int × Tn15))) :=
  cond (decide (s32 < s31)) (
  cond (inR s32 (List.length l30)) (
  let t35_4 : Int := (List.getD l30 (Int.toNat s32) ((0 : Int), (0 : Int))).1
  let t35_5 : Int := (List.getD l30 (Int.toNat s32) ((0 : Int), (0 : Int))).2
  let t41_2 : Tn15 := [(s11, (t35_4, (-1 : Int)))]
  cond (decide (List.length l9 + List.length t41_2 ≤ sizeMax)) (
  let t42_2 : Tn15 := (l9 ++ t41_2)
  (duty_View_Segments_l2_x N s3 t35_4 s12 s13 s31 s32 b5 b5_1 b5_2 b5_3 b5_4 b5_5 b5_6 b5_7 b5_8 b5_9 b10 b10_1 t35_4 t35_5 t42_2 l30).bind fun q2_2 =>
  let t87_2 : Int := (w64 (q2_2.2.2.2.2.2.1 + (1 : Int)))
  some (.inl (q2_2.1, q2_2.2.1, q2_2.2.2.1, q2_2.2.2.2.1, q2_2.2.2.2.2.1, t87_2, q2_2.2.2.2.2.2.2.1, q2_2.2.2.2.2.2.2.2.1, q2_2.2.2.2.2.2.2.2.2.1, q2_2.2.2.2.2.2.2.2.2.2.1, q2_2.2.2.2.2.2.2.2.2.2.2.1, q2_2.2.2.2.2.2.2.2.2.2.2.2.1, q2_2.2.2.2.2.2.2.2.2.2.2.2.2.1, q2_2.2.2.2.2.2.2.2.2.2.2.2.2.2.1, q2_2.2.2.2.2.2.2.2.2.2.2.2.2.2.2.1, q2_2.2.2.2.2.2.2.2.2.2.2.2.2.2.2.2.1, q2_2.2.2.2.2.2.2.2.2.2.2.2.2.2.2.2.2.1, q2_2.2.2.2.2.2.2.2.2.2.2.2.2.2.2.2.2.2.1, q2_2.2.2.2.2.2.2.2.2.2.2.2.2.2.2.2.2.2.2.1, q2_2.2.2.2.2.2.2.2.2.2.2.2.2.2.2.2.2.2.2.2))) none) none) (
  some (.inr (s3, s11, l9)))

theorem duty_View_Segments_l0_step_le (N : Nat) (s3 : Int) (s11 : Int) (s12 : Int) (s13 : Int) (s31 : Int) (s32 : Int) (b5 : ByteArray) (b5_1 : Int) (b5_2 : Int) (b5_3 : Int) (b5_4 : Int) (b5_5 : Int) (b5_6 : (List Int)) (b5_7 : Tn2) (b5_8 : Int) (b5_9 : Int) (b10 : Int) (b10_1 : Tn2) (l9 : Tn15) (l30 : Tn2) : OLe (duty_View_Segments_l0_step_x N s3 s11 s12 s13 s31 s32 b5 b5_1 b5_2 b5_3 b5_4 b5_5 b5_6 b5_7 b5_8 b5_9 b10 b10_1 l9 l30) (duty_View_Segments_l0_step s3 s11 s12 s13 s31 s32 b5 b5_1 b5_2 b5_3 b5_4 b5_5 b5_6 b5_7 b5_8 b5_9 b10 b10_1 l9 l30) := by
  unfold duty_View_Segments_l0_step_x duty_View_Segments_l0_step
  with_reducible repeat' (first | exact OLe.refl _ | exact OLe.none _ | exact duty_View_Segments_l2_le N _ _ _ _ _ _ _ _ _ _ _ _ _ _ _ _ _ _ _ _ _ _ | apply OLe.cond | apply OLe.sumC | refine OLe.bind ?_ ?_ | intro _)

def duty_View_Segments_l0_x (N : Nat) (s3 : Int) (s11 : Int) (s12 : Int) (s13 : Int) (s31 : Int) (s32 : Int) (b5 : ByteArray) (b5_1 : Int) (b5_2 : Int) (b5_3 : Int) (b5_4 : Int) (b5_5 : Int) (b5_6 : (List Int)) (b5_7 : Tn2) (b5_8 : Int) (b5_9 : Int) (b10 : Int) (b10_1 : Tn2) (l9 : Tn15) (l30 : Tn2) : Option ((Int × Int × Tn15)) :=
  loopN (unc20 (duty_View_Segments_l0_step_x N)) N (s3, s11, s12, s13, s31, s32, b5, b5_1, b5_2, b5_3, b5_4, b5_5, b5_6, b5_7, b5_8, b5_9, b10, b10_1, l9, l30)

theorem duty_View_Segments_l0_le (N : Nat) (s3 : Int) (s11 : Int) (s12 : Int) (s13 : Int) (s31 : Int) (s32 : Int) (b5 : ByteArray) (b5_1 : Int) (b5_2 : Int) (b5_3 : Int) (b5_4 : Int) (b5_5 : Int) (b5_6 : (List Int)) (b5_7 : Tn2) (b5_8 : Int) (b5_9 : Int) (b10 : Int) (b10_1 : Tn2) (l9 : Tn15) (l30 : Tn2) : OLe (duty_View_Segments_l0_x N s3 s11 s12 s13 s31 s32 b5 b5_1 b5_2 b5_3 b5_4 b5_5 b5_6 b5_7 b5_8 b5_9 b10 b10_1 l9 l30) (duty_View_Segments_l0 s3 s11 s12 s13 s31 s32 b5 b5_1 b5_2 b5_3 b5_4 b5_5 b5_6 b5_7 b5_8 b5_9 b10 b10_1 l9 l30) := OLe.loop N _ fun h => duty_View_Segments_l0_step_le N _ _ _ _ _ _ _ _ _ _ _ _ _ _ _ _ _ _ _ _

def duty_View_Segments_x (N : Nat) (a0_v : Tn76) (a1_l : Tn62) (a2_from : Int) (a3_to : Int) : Option (Tn15) :=
  cond (inR a1_l.2.1 (List.length a0_v.2)) (
  let t23 : Tn14 := (List.getD a0_v.2 (Int.toNat a1_l.2.1) ((0 : Int), ([] : Tn2)))
  (duty_View_Times_x N ((a0_v.1.1, (a0_v.1.2.1, (a0_v.1.2.2.1, a0_v.1.2.2.2))), a0_v.2) (a1_l.1, (a1_l.2.1, ((a1_l.2.2.1.1, a1_l.2.2.1.2), (a1_l.2.2.2.1, (a1_l.2.2.2.2.1, (a1_l.2.2.2.2.2.1, (a1_l.2.2.2.2.2.2.1, (a1_l.2.2.2.2.2.2.2.1, a1_l.2.2.2.2.2.2.2.2)))))))) a2_from a3_to).bind fun r30 =>
  let t31 : Int := (Int.ofNat (List.length r30))
  (duty_View_Segments_l0_x N a3_to a2_from (-1 : Int) (-1 : Int) t31 (0 : Int) a1_l.1 a1_l.2.1 a1_l.2.2.1.1 a1_l.2.2.1.2 a1_l.2.2.2.1 a1_l.2.2.2.2.1 a1_l.2.2.2.2.2.1 a1_l.2.2.2.2.2.2.1 a1_l.2.2.2.2.2.2.2.1 a1_l.2.2.2.2.2.2.2.2 t23.1 t23.2 ([] : Tn15) r30).bind fun q0 =>
  let t92 : Tn15 := [(q0.2.1, (q0.1, (-1 : Int)))]
  cond (decide (List.length q0.2.2 + List.length t92 ≤ sizeMax)) (
  let t93 : Tn15 := (q0.2.2 ++ t92)
  (duty_Merge_x N t93).bind fun r94 =>
  some r94) none) none

theorem duty_View_Segments_le (N : Nat) (a0_v : Tn76) (a1_l : Tn62) (a2_from : Int) (a3_to : Int) : OLe (duty_View_Segments_x N a0_v a1_l a2_from a3_to) (duty_View_Segments a0_v a1_l a2_from a3_to) := by
  unfold duty_View_Segments_x duty_View_Segments
  with_reducible repeat' (first | exact OLe.refl _ | exact OLe.none _ | exact duty_View_Times_le N _ _ _ _ | exact duty_View_Segments_l0_le N _ _ _ _ _ _ _ _ _ _ _ _ _ _ _ _ _ _ _ _ | exact duty_Merge_le N _ | apply OLe.cond | apply OLe.sumC | refine OLe.bind ?_ ?_ | intro _)

def duty_Segments_x (N : Nat) (a0_c : Tn74) (a1_l : Tn62) (a2_from : Int) (a3_to : Int) : Option (Tn15 × Int) :=
  (duty_check_x N (a0_c.1, (a0_c.2.1, (a0_c.2.2.1, a0_c.2.2.2))) (a1_l.1, (a1_l.2.1, ((a1_l.2.2.1.1, a1_l.2.2.1.2), (a1_l.2.2.2.1, (a1_l.2.2.2.2.1, (a1_l.2.2.2.2.2.1, (a1_l.2.2.2.2.2.2.1, (a1_l.2.2.2.2.2.2.2.1, a1_l.2.2.2.2.2.2.2.2)))))))) a2_from a3_to).bind fun r16 =>
  cond (r16 != (0 : Int)) (
  some (([] : Tn15), r16)) (
  (duty_view_x N (a0_c.1, (a0_c.2.1, (a0_c.2.2.1, a0_c.2.2.2)))).bind fun r21 =>
  (duty_View_Segments_x N ((r21.1.1, (r21.1.2.1, (r21.1.2.2.1, r21.1.2.2.2))), r21.2) (a1_l.1, (a1_l.2.1, ((a1_l.2.2.1.1, a1_l.2.2.1.2), (a1_l.2.2.2.1, (a1_l.2.2.2.2.1, (a1_l.2.2.2.2.2.1, (a1_l.2.2.2.2.2.2.1, (a1_l.2.2.2.2.2.2.2.1, a1_l.2.2.2.2.2.2.2.2)))))))) a2_from a3_to).bind fun r25 =>
  let t27 : Int := (Int.ofNat (List.length r25))
  cond (decide (t27 > (16384 : Int))) (
  some (([] : Tn15), (5 : Int))) (
  some (r25, (0 : Int))))

theorem duty_Segments_le (N : Nat) (a0_c : Tn74) (a1_l : Tn62) (a2_from : Int) (a3_to : Int) : OLe (duty_Segments_x N a0_c a1_l a2_from a3_to) (duty_Segments a0_c a1_l a2_from a3_to) := by
  unfold duty_Segments_x duty_Segments
  with_reducible repeat' (first | exact OLe.refl _ | exact OLe.none _ | exact duty_check_le N _ _ _ _ | exact duty_view_le N _ | exact duty_View_Segments_le N _ _ _ _ | apply OLe.cond | apply OLe.sumC | refine OLe.bind ?_ ?_ | intro _)

def duty_Times_x (N : Nat) (a0_c : Tn74) (a1_l : Tn62) (a2_from : Int) (a3_to : Int) : Option (Tn2 × Int) :=
  (duty_check_x N (a0_c.1, (a0_c.2.1, (a0_c.2.2.1, a0_c.2.2.2))) (a1_l.1, (a1_l.2.1, ((a1_l.2.2.1.1, a1_l.2.2.1.2), (a1_l.2.2.2.1, (a1_l.2.2.2.2.1, (a1_l.2.2.2.2.2.1, (a1_l.2.2.2.2.2.2.1, (a1_l.2.2.2.2.2.2.2.1, a1_l.2.2.2.2.2.2.2.2)))))))) a2_from a3_to).bind fun r16 =>
  cond (r16 != (0 : Int)) (
  some (([] : Tn2), r16)) (
  (duty_view_x N (a0_c.1, (a0_c.2.1, (a0_c.2.2.1, a0_c.2.2.2)))).bind fun r21 =>
  (duty_View_Times_x N ((r21.1.1, (r21.1.2.1, (r21.1.2.2.1, r21.1.2.2.2))), r21.2) (a1_l.1, (a1_l.2.1, ((a1_l.2.2.1.1, a1_l.2.2.1.2), (a1_l.2.2.2.1, (a1_l.2.2.2.2.1, (a1_l.2.2.2.2.2.1, (a1_l.2.2.2.2.2.2.1, (a1_l.2.2.2.2.2.2.2.1, a1_l.2.2.2.2.2.2.2.2)))))))) a2_from a3_to).bind fun r25 =>
  let t27 : Int := (Int.ofNat (List.length r25))
  cond (decide (t27 > (4096 : Int))) (
  some (([] : Tn2), (5 : Int))) (
  some (r25, (0 : Int))))

theorem duty_Times_le (N : Nat) (a0_c : Tn74) (a1_l : Tn62) (a2_from : Int) (a3_to : Int) : OLe (duty_Times_x N a0_c a1_l a2_from a3_to) (duty_Times a0_c a1_l a2_from a3_to) := by
  unfold duty_Times_x duty_Times
  with_reducible repeat' (first | exact OLe.refl _ | exact OLe.none _ | exact duty_check_le N _ _ _ _ | exact duty_view_le N _ | exact duty_View_Times_le N _ _ _ _ | apply OLe.cond | apply OLe.sumC | refine OLe.bind ?_ ?_ | intro _)

def week_Has_l0_x (N : Nat) (s1 : Int) (s7 : Tn2) (s8 : Int) (s9 : Int) : Option (Bool ⊕ Unit) :=
  loopN (fun h : Int × Tn2 × Int × Int => week_Has_l0_step h.1 h.2.1 h.2.2.1 h.2.2.2) N (s1, s7, s8, s9)

theorem week_Has_l0_le (N : Nat) (s1 : Int) (s7 : Tn2) (s8 : Int) (s9 : Int) : OLe (week_Has_l0_x N s1 s7 s8 s9) (week_Has_l0 s1 s7 s8 s9) := OLe.loop N _ fun h => OLe.refl _

def week_Has_x (N : Nat) (a0_l : Tn2) (a1_s : Int) : Option (Bool) :=
  let t8 : Int := (Int.ofNat (List.length a0_l))
  (week_Has_l0_x N a1_s a0_l t8 (0 : Int)).bind fun q0 =>
  sumC q0 (fun a =>
  some a) (fun b =>
  some false)

theorem week_Has_le (N : Nat) (a0_l : Tn2) (a1_s : Int) : OLe (week_Has_x N a0_l a1_s) (week_Has a0_l a1_s) := by
  unfold week_Has_x week_Has
  with_reducible repeat' (first | exact OLe.refl _ | exact OLe.none _ | exact week_Has_l0_le N _ _ _ _ | apply OLe.cond | apply OLe.sumC | refine OLe.bind ?_ ?_ | intro _)

def slices_BinarySearch_int_int_l0_x (N : Nat) (s0 : (List Int)) (s1 : Int) (s6 : Int) (s7 : Int) (s8 : Int) : Option (((List Int) × Int × Int × Int)) :=
  loopN (fun h : (List Int) × Int × Int × Int × Int => slices_BinarySearch_int_int_l0_step h.1 h.2.1 h.2.2.1 h.2.2.2.1 h.2.2.2.2) N (s0, s1, s6, s7, s8)

theorem slices_BinarySearch_int_int_l0_le (N : Nat) (s0 : (List Int)) (s1 : Int) (s6 : Int) (s7 : Int) (s8 : Int) : OLe (slices_BinarySearch_int_int_l0_x N s0 s1 s6 s7 s8) (slices_BinarySearch_int_int_l0 s0 s1 s6 s7 s8) := OLe.loop N _ fun h => OLe.refl _

def slices_BinarySearch_int_int_x (N : Nat) (a0_x : (List Int)) (a1_target : Int) : Option (Int × Bool) :=
  let t11 : Int := (Int.ofNat (List.length a0_x))
  (slices_BinarySearch_int_int_l0_x N a0_x a1_target t11 (0 : Int) t11).bind fun q0 =>
  cond ((inR q0.2.2.2 (List.length q0.1)) || !(decide (q0.2.2.2 < q0.2.2.1))) (
  let t38 : Int := (List.getD q0.1 (Int.toNat q0.2.2.2) (0 : Int))
  cond ((inR q0.2.2.2 (List.length q0.1)) || !((decide (q0.2.2.2 < q0.2.2.1)) && (!(t38 == q0.2.1)))) (
  let t45 : Int := (List.getD q0.1 (Int.toNat q0.2.2.2) (0 : Int))
  cond (decide (q0.2.2.2 < q0.2.2.1)) (
  cond (t38 == q0.2.1) (
  some (q0.2.2.2, true)) (
  (slices_isNaN_int t45).bind fun r47 =>
  cond r47 (
  (slices_isNaN_int q0.2.1).bind fun r50 =>
  some (q0.2.2.2, r50)) (
  some (q0.2.2.2, false)))) (
  cond ((t38 == q0.2.1) || !false) (
  some (q0.2.2.2, false)) none)) none) none

theorem slices_BinarySearch_int_int_le (N : Nat) (a0_x : (List Int)) (a1_target : Int) : OLe (slices_BinarySearch_int_int_x N a0_x a1_target) (slices_BinarySearch_int_int a0_x a1_target) := by
  unfold slices_BinarySearch_int_int_x slices_BinarySearch_int_int
  with_reducible repeat' (first | exact OLe.refl _ | exact OLe.none _ | exact slices_BinarySearch_int_int_l0_le N _ _ _ _ _ | apply OLe.cond | apply OLe.sumC | refine OLe.bind ?_ ?_ | intro _)

def duty_View_On_x (N : Nat) (a0_v : Tn76) (a1_l : Tn62) (a2_t : Int) : Option (Int × Bool) :=
  cond (cond (decide (a2_t < (0 : Int))) true (decide (a2_t > (8589934592 : Int)))) (
  some ((0 : Int), false)) (
  cond (inR a1_l.2.1 (List.length a0_v.2)) (
  let t23 : Tn14 := (List.getD a0_v.2 (Int.toNat a1_l.2.1) ((0 : Int), ([] : Tn2)))
  (recur_ShiftOf_x N (t23.1, t23.2) (a1_l.1, (a1_l.2.1, ((a1_l.2.2.1.1, a1_l.2.2.1.2), (a1_l.2.2.2.1, (a1_l.2.2.2.2.1, (a1_l.2.2.2.2.2.1, (a1_l.2.2.2.2.2.2.1, (a1_l.2.2.2.2.2.2.2.1, a1_l.2.2.2.2.2.2.2.2)))))))) a2_t).bind fun r28 =>
  cond (decide (r28 < (0 : Int))) (
  some ((0 : Int), false)) (
  let t34 : Int := (Int.ofNat (List.length a1_l.2.2.2.2.2.2.1))
  cond (decide (t34 > (0 : Int))) (
  (zone_Table_Local_x N (t23.1, t23.2) a2_t).bind fun r41 =>
  (week_SecondOf (r41.1, r41.2)).bind fun r42 =>
  (week_Has_x N a1_l.2.2.2.2.2.2.1 r42).bind fun r43 =>
  cond (!r43) (
  some ((0 : Int), false)) (
  cond (a1_l.2.2.2.2.2.2.2.2 == (0 : Int)) (
  some (r28, true)) (
  cond (inR a1_l.2.2.2.2.2.2.2.1 (List.length a0_v.1.2.2.1)) (
  let t56 : Tn20 := (List.getD a0_v.1.2.2.1 (Int.toNat a1_l.2.2.2.2.2.2.2.1) (ByteArray.empty, ((0 : Int), ([] : (List Int)))))
  cond (inR t56.2.1 (List.length a0_v.2)) (
  let t65 : Tn14 := (List.getD a0_v.2 (Int.toNat t56.2.1) ((0 : Int), ([] : Tn2)))
  (zone_Table_Local_x N (t65.1, t65.2) a2_t).bind fun r68 =>
  (slices_BinarySearch_int_int_x N t56.2.2 r68.1).bind fun r70 =>
  some (r28, (r70.2 == (a1_l.2.2.2.2.2.2.2.2 == (2 : Int))))) none) none))) (
  cond (a1_l.2.2.2.2.2.2.2.2 == (0 : Int)) (
  some (r28, true)) (
  cond (inR a1_l.2.2.2.2.2.2.2.1 (List.length a0_v.1.2.2.1)) (
  let t56_1 : Tn20 := (List.getD a0_v.1.2.2.1 (Int.toNat a1_l.2.2.2.2.2.2.2.1) (ByteArray.empty, ((0 : Int), ([] : (List Int)))))
  cond (inR t56_1.2.1 (List.length a0_v.2)) (
  let t65_1 : Tn14 := (List.getD a0_v.2 (Int.toNat t56_1.2.1) ((0 : Int), ([] : Tn2)))
  (zone_Table_Local_x N (t65_1.1, t65_1.2) a2_t).bind fun r68_1 =>
  (slices_BinarySearch_int_int_x N t56_1.2.2 r68_1.1).bind fun r70_1 =>
  some (r28, (r70_1.2 == (a1_l.2.2.2.2.2.2.2.2 == (2 : Int))))) none) none)))) none)

theorem duty_View_On_le (N : Nat) (a0_v : Tn76) (a1_l : Tn62) (a2_t : Int) : OLe (duty_View_On_x N a0_v a1_l a2_t) (duty_View_On a0_v a1_l a2_t) := by
  unfold duty_View_On_x duty_View_On
  with_reducible repeat' (first | exact OLe.refl _ | exact OLe.none _ | exact recur_ShiftOf_le N _ _ _ | exact zone_Table_Local_le N _ _ | exact week_Has_le N _ _ | exact slices_BinarySearch_int_int_le N _ _ | apply OLe.cond | apply OLe.sumC | refine OLe.bind ?_ ?_ | intro _)

def duty_View_Person_x (N : Nat) (a0_v : Tn76) (a1_l : Tn62) (a2_t : Int) : Option (Int) :=
  (duty_View_On_x N ((a0_v.1.1, (a0_v.1.2.1, (a0_v.1.2.2.1, a0_v.1.2.2.2))), a0_v.2) (a1_l.1, (a1_l.2.1, ((a1_l.2.2.1.1, a1_l.2.2.1.2), (a1_l.2.2.2.1, (a1_l.2.2.2.2.1, (a1_l.2.2.2.2.2.1, (a1_l.2.2.2.2.2.2.1, (a1_l.2.2.2.2.2.2.2.1, a1_l.2.2.2.2.2.2.2.2)))))))) a2_t).bind fun r13 =>
  cond (!r13.2) (
  some (-1 : Int)) (
  let t23 : Int := (Int.ofNat (List.length a1_l.2.2.2.2.2.1))
  cond (!(t23 == 0)) (
  let t24 : Int := (Int.tmod r13.1 t23)
  cond (inR t24 (List.length a1_l.2.2.2.2.2.1)) (
  let t25 : Int := (List.getD a1_l.2.2.2.2.2.1 (Int.toNat t24) (0 : Int))
  some t25) none) none)

theorem duty_View_Person_le (N : Nat) (a0_v : Tn76) (a1_l : Tn62) (a2_t : Int) : OLe (duty_View_Person_x N a0_v a1_l a2_t) (duty_View_Person a0_v a1_l a2_t) := by
  unfold duty_View_Person_x duty_View_Person
  with_reducible repeat' (first | exact OLe.refl _ | exact OLe.none _ | exact duty_View_On_le N _ _ _ | apply OLe.cond | apply OLe.sumC | refine OLe.bind ?_ ?_ | intro _)

def duty_Person_x (N : Nat) (a0_c : Tn74) (a1_l : Tn62) (a2_t : Int) : Option (Int) :=
  (duty_fits_x N (a0_c.1, (a0_c.2.1, (a0_c.2.2.1, a0_c.2.2.2))) (a1_l.1, (a1_l.2.1, ((a1_l.2.2.1.1, a1_l.2.2.1.2), (a1_l.2.2.2.1, (a1_l.2.2.2.2.1, (a1_l.2.2.2.2.2.1, (a1_l.2.2.2.2.2.2.1, (a1_l.2.2.2.2.2.2.2.1, a1_l.2.2.2.2.2.2.2.2))))))))).bind fun r9 =>
  cond (!r9) (
  some (-1 : Int)) (
  (duty_view_x N (a0_c.1, (a0_c.2.1, (a0_c.2.2.1, a0_c.2.2.2)))).bind fun r12 =>
  (duty_View_Person_x N ((r12.1.1, (r12.1.2.1, (r12.1.2.2.1, r12.1.2.2.2))), r12.2) (a1_l.1, (a1_l.2.1, ((a1_l.2.2.1.1, a1_l.2.2.1.2), (a1_l.2.2.2.1, (a1_l.2.2.2.2.1, (a1_l.2.2.2.2.2.1, (a1_l.2.2.2.2.2.2.1, (a1_l.2.2.2.2.2.2.2.1, a1_l.2.2.2.2.2.2.2.2)))))))) a2_t).bind fun r15 =>
  some r15)

theorem duty_Person_le (N : Nat) (a0_c : Tn74) (a1_l : Tn62) (a2_t : Int) : OLe (duty_Person_x N a0_c a1_l a2_t) (duty_Person a0_c a1_l a2_t) := by
  unfold duty_Person_x duty_Person
  with_reducible repeat' (first | exact OLe.refl _ | exact OLe.none _ | exact duty_fits_le N _ _ | exact duty_view_le N _ | exact duty_View_Person_le N _ _ _ | apply OLe.cond | apply OLe.sumC | refine OLe.bind ?_ ?_ | intro _)

def duty_On_x (N : Nat) (a0_c : Tn74) (a1_l : Tn62) (a2_t : Int) : Option (Bool) :=
  (duty_fits_x N (a0_c.1, (a0_c.2.1, (a0_c.2.2.1, a0_c.2.2.2))) (a1_l.1, (a1_l.2.1, ((a1_l.2.2.1.1, a1_l.2.2.1.2), (a1_l.2.2.2.1, (a1_l.2.2.2.2.1, (a1_l.2.2.2.2.2.1, (a1_l.2.2.2.2.2.2.1, (a1_l.2.2.2.2.2.2.2.1, a1_l.2.2.2.2.2.2.2.2))))))))).bind fun r11 =>
  cond (!r11) (
  some false) (
  (duty_view_x N (a0_c.1, (a0_c.2.1, (a0_c.2.2.1, a0_c.2.2.2)))).bind fun r15 =>
  (duty_View_On_x N ((r15.1.1, (r15.1.2.1, (r15.1.2.2.1, r15.1.2.2.2))), r15.2) (a1_l.1, (a1_l.2.1, ((a1_l.2.2.1.1, a1_l.2.2.1.2), (a1_l.2.2.2.1, (a1_l.2.2.2.2.1, (a1_l.2.2.2.2.2.1, (a1_l.2.2.2.2.2.2.1, (a1_l.2.2.2.2.2.2.2.1, a1_l.2.2.2.2.2.2.2.2)))))))) a2_t).bind fun r18 =>
  some r18.2)

theorem duty_On_le (N : Nat) (a0_c : Tn74) (a1_l : Tn62) (a2_t : Int) : OLe (duty_On_x N a0_c a1_l a2_t) (duty_On a0_c a1_l a2_t) := by
  unfold duty_On_x duty_On
  with_reducible repeat' (first | exact OLe.refl _ | exact OLe.none _ | exact duty_fits_le N _ _ | exact duty_view_le N _ | exact duty_View_On_le N _ _ _ | apply OLe.cond | apply OLe.sumC | refine OLe.bind ?_ ?_ | intro _)

def law11_sane_x (N : Nat)  : Option (Bool) :=
  (law11_first).bind fun r8 =>
  (duty_Segments_x N (r8.1.1, (r8.1.2.1, (r8.1.2.2.1, r8.1.2.2.2))) (r8.2.1, (r8.2.2.1, ((r8.2.2.2.1.1, r8.2.2.2.1.2), (r8.2.2.2.2.1, (r8.2.2.2.2.2.1, (r8.2.2.2.2.2.2.1, (r8.2.2.2.2.2.2.2.1, (r8.2.2.2.2.2.2.2.2.1, r8.2.2.2.2.2.2.2.2.2)))))))) (950400 : Int) (1036800 : Int)).bind fun r14 =>
  (duty_Times_x N (r8.1.1, (r8.1.2.1, (r8.1.2.2.1, r8.1.2.2.2))) (r8.2.1, (r8.2.2.1, ((r8.2.2.2.1.1, r8.2.2.2.1.2), (r8.2.2.2.2.1, (r8.2.2.2.2.2.1, (r8.2.2.2.2.2.2.1, (r8.2.2.2.2.2.2.2.1, (r8.2.2.2.2.2.2.2.2.1, r8.2.2.2.2.2.2.2.2.2)))))))) (950400 : Int) (1036800 : Int)).bind fun r20 =>
  cond (cond (r14.2 == (0 : Int)) (r20.2 == (0 : Int)) false) (
  (duty_Person_x N (r8.1.1, (r8.1.2.1, (r8.1.2.2.1, r8.1.2.2.2))) (r8.2.1, (r8.2.2.1, ((r8.2.2.2.1.1, r8.2.2.2.1.2), (r8.2.2.2.2.1, (r8.2.2.2.2.2.1, (r8.2.2.2.2.2.2.1, (r8.2.2.2.2.2.2.2.1, (r8.2.2.2.2.2.2.2.2.1, r8.2.2.2.2.2.2.2.2.2)))))))) (993600 : Int)).bind fun r32 =>
  cond (r32 == (1 : Int)) (
  (duty_Person_x N (r8.1.1, (r8.1.2.1, (r8.1.2.2.1, r8.1.2.2.2))) (r8.2.1, (r8.2.2.1, ((r8.2.2.2.1.1, r8.2.2.2.1.2), (r8.2.2.2.2.1, (r8.2.2.2.2.2.1, (r8.2.2.2.2.2.2.1, (r8.2.2.2.2.2.2.2.1, (r8.2.2.2.2.2.2.2.2.1, r8.2.2.2.2.2.2.2.2.2)))))))) (1015200 : Int)).bind fun r38 =>
  cond (r38 == (-1 : Int)) (
  (duty_On_x N (r8.1.1, (r8.1.2.1, (r8.1.2.2.1, r8.1.2.2.2))) (r8.2.1, (r8.2.2.1, ((r8.2.2.2.1.1, r8.2.2.2.1.2), (r8.2.2.2.2.1, (r8.2.2.2.2.2.1, (r8.2.2.2.2.2.2.1, (r8.2.2.2.2.2.2.2.1, (r8.2.2.2.2.2.2.2.2.1, r8.2.2.2.2.2.2.2.2.2)))))))) (993600 : Int)).bind fun r44 =>
  let t48 : Int := (Int.ofNat (List.length r14.1))
  cond ((inR (1 : Int) (List.length r14.1)) || !(cond r44 (t48 == (3 : Int)) false)) (
  let t54 : Int := (List.getD r14.1 1 ((0 : Int), ((0 : Int), (0 : Int)))).1
  let t54_1 : Int := (List.getD r14.1 1 ((0 : Int), ((0 : Int), (0 : Int)))).2.1
  let t54_2 : Int := (List.getD r14.1 1 ((0 : Int), ((0 : Int), (0 : Int)))).2.2
  let t57 : Bool := (cond (cond r44 (t48 == (3 : Int)) false) ((t54 == (982800 : Int)) && ((t54_1 == (1011600 : Int)) && (t54_2 == (1 : Int)))) false)
  let t60 : Int := (Int.ofNat (List.length r20.1))
  cond ((inR (0 : Int) (List.length r20.1)) || !(cond t57 (t60 == (1 : Int)) false)) (
  let t67 : Int := (List.getD r20.1 0 ((0 : Int), (0 : Int))).1
  some (cond (cond t57 (t60 == (1 : Int)) false) (t67 == (982800 : Int)) false)) none) none) (
  let t48_1 : Int := (Int.ofNat (List.length r14.1))
  cond ((inR (1 : Int) (List.length r14.1)) || !false) (
  let t54_3 : Int := (List.getD r14.1 1 ((0 : Int), ((0 : Int), (0 : Int)))).1
  let t54_4 : Int := (List.getD r14.1 1 ((0 : Int), ((0 : Int), (0 : Int)))).2.1
  let t54_5 : Int := (List.getD r14.1 1 ((0 : Int), ((0 : Int), (0 : Int)))).2.2
  let t60_1 : Int := (Int.ofNat (List.length r20.1))
  cond ((inR (0 : Int) (List.length r20.1)) || !false) (
  let t67_1 : Int := (List.getD r20.1 0 ((0 : Int), (0 : Int))).1
  some false) none) none)) (
  let t48_2 : Int := (Int.ofNat (List.length r14.1))
  cond ((inR (1 : Int) (List.length r14.1)) || !false) (
  let t54_6 : Int := (List.getD r14.1 1 ((0 : Int), ((0 : Int), (0 : Int)))).1
  let t54_7 : Int := (List.getD r14.1 1 ((0 : Int), ((0 : Int), (0 : Int)))).2.1
  let t54_8 : Int := (List.getD r14.1 1 ((0 : Int), ((0 : Int), (0 : Int)))).2.2
  let t60_2 : Int := (Int.ofNat (List.length r20.1))
  cond ((inR (0 : Int) (List.length r20.1)) || !false) (
  let t67_2 : Int := (List.getD r20.1 0 ((0 : Int), (0 : Int))).1
  some false) none) none)) (
  let t48_3 : Int := (Int.ofNat (List.length r14.1))
  cond ((inR (1 : Int) (List.length r14.1)) || !false) (
  let t54_9 : Int := (List.getD r14.1 1 ((0 : Int), ((0 : Int), (0 : Int)))).1
  let t54_10 : Int := (List.getD r14.1 1 ((0 : Int), ((0 : Int), (0 : Int)))).2.1
  let t54_11 : Int := (List.getD r14.1 1 ((0 : Int), ((0 : Int), (0 : Int)))).2.2
  let t60_3 : Int := (Int.ofNat (List.length r20.1))
  cond ((inR (0 : Int) (List.length r20.1)) || !false) (
  let t67_3 : Int := (List.getD r20.1 0 ((0 : Int), (0 : Int))).1
  some false) none) none)

theorem law11_sane_le (N : Nat)  : OLe (law11_sane_x N ) (law11_sane ) := by
  unfold law11_sane_x law11_sane
  with_reducible repeat' (first | exact OLe.refl _ | exact OLe.none _ | exact duty_Segments_le N _ _ _ _ | exact duty_Times_le N _ _ _ _ | exact duty_Person_le N _ _ _ | exact duty_On_le N _ _ _ | apply OLe.cond | apply OLe.sumC | refine OLe.bind ?_ ?_ | intro _)

end
end Go.Proofs.Pw
