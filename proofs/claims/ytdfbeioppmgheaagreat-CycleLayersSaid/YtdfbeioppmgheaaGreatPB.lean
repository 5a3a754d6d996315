/- Twins with a bound on their rounds, printed by a program. -/
import Derived.Test.YtdfbeioppmgheaaGreatFns
import Derived.Test.YtdfbeioppmgheaaGreatLD
open Go Go.Lft
set_option linter.unusedVariables false
set_option maxRecDepth 100000
namespace Go.Proofs.Pw
noncomputable section
theorem lexer_Name_l0_le (N : Nat) (s0 : ByteArray) (s19 s20 : Int) : OLe (@lexer_Name_l0 (natLP N) s0 s19 s20) (lexer_Name_l0 s0 s19 s20) := OLe.loop N _ fun h => OLe.refl _
theorem lexer_Name_le (N : Nat) (a0_s : ByteArray) : OLe (@lexer_Name (natLP N) a0_s) (lexer_Name a0_s) := by
 unfold lexer_Name
 with_reducible repeat' (first | exact OLe.refl _ | exact OLe.none _ | exact lexer_Name_l0_le N _ _ _ | apply OLe.cond | apply OLe.sumC | refine OLe.bind ?_ ?_ | intro _)
theorem resolve_name_le (N : Nat) (a0_s : ByteArray) (a1_seen : (List (ByteArray × Bool))) : OLe (@resolve_name (natLP N) a0_s a1_seen) (resolve_name a0_s a1_seen) := by
 unfold resolve_name
 with_reducible repeat' (first | exact OLe.refl _ | exact OLe.none _ | exact lexer_Name_le N _ | apply OLe.cond | apply OLe.sumC | refine OLe.bind ?_ ?_ | intro _)
theorem civil_number_l0_le (N : Nat) (s3 s4 b1 b1_1 b1_2 : Int) : OLe (@civil_number_l0 (natLP N) s3 s4 b1 b1_1 b1_2) (civil_number_l0 s3 s4 b1 b1_1 b1_2) := OLe.loop N _ fun h => OLe.refl _
theorem civil_number_le (N : Nat) (a0_d : (Int × (Int × Int))) : OLe (@civil_number (natLP N) a0_d) (civil_number a0_d) := by
 unfold civil_number
 with_reducible repeat' (first | exact OLe.refl _ | exact OLe.none _ | exact civil_number_l0_le N _ _ _ _ _ | apply OLe.cond | apply OLe.sumC | refine OLe.bind ?_ ?_ | intro _)
theorem civil_Nth_le (N : Nat) (a0_year a1_month a2_week a3_weekday : Int) : OLe (@civil_Nth (natLP N) a0_year a1_month a2_week a3_weekday) (civil_Nth a0_year a1_month a2_week a3_weekday) := by
 unfold civil_Nth
 with_reducible repeat' (first | exact OLe.refl _ | exact OLe.none _ | exact civil_number_le N _ | apply OLe.cond | apply OLe.sumC | refine OLe.bind ?_ ?_ | intro _)
theorem slices_insertionSortCmpFunc_zone_occurrence_l2_le (N : Nat) (s1 s2 s8 s9 : Int) (b0 : Tn2) : OLe (@slices_insertionSortCmpFunc_zone_occurrence_l2 (natLP N) s1 s2 s8 s9 b0) (slices_insertionSortCmpFunc_zone_occurrence_l2 s1 s2 s8 s9 b0) := OLe.loop N _ fun h => OLe.refl _
theorem slices_insertionSortCmpFunc_zone_occurrence_l0_step_le (N : Nat) (s1 s2 s8 : Int) (b0 : Tn2) : OLe (@slices_insertionSortCmpFunc_zone_occurrence_l0_step (natLP N) s1 s2 s8 b0) (slices_insertionSortCmpFunc_zone_occurrence_l0_step s1 s2 s8 b0) := by
 unfold slices_insertionSortCmpFunc_zone_occurrence_l0_step
 with_reducible repeat' (first | exact OLe.refl _ | exact OLe.none _ | exact slices_insertionSortCmpFunc_zone_occurrence_l2_le N _ _ _ _ _ | apply OLe.cond | apply OLe.sumC | refine OLe.bind ?_ ?_ | intro _)
theorem slices_insertionSortCmpFunc_zone_occurrence_l0_le (N : Nat) (s1 s2 s8 : Int) (b0 : Tn2) : OLe (@slices_insertionSortCmpFunc_zone_occurrence_l0 (natLP N) s1 s2 s8 b0) (slices_insertionSortCmpFunc_zone_occurrence_l0 s1 s2 s8 b0) := OLe.loop N _ fun h => slices_insertionSortCmpFunc_zone_occurrence_l0_step_le N _ _ _ _
theorem slices_insertionSortCmpFunc_zone_occurrence_le (N : Nat) (a0_data : Tn2) (a1_a a2_b : Int) : OLe (@slices_insertionSortCmpFunc_zone_occurrence (natLP N) a0_data a1_a a2_b) (slices_insertionSortCmpFunc_zone_occurrence a0_data a1_a a2_b) := by
 unfold slices_insertionSortCmpFunc_zone_occurrence
 with_reducible repeat' (first | exact OLe.refl _ | exact OLe.none _ | exact slices_insertionSortCmpFunc_zone_occurrence_l0_le N _ _ _ _ | apply OLe.cond | apply OLe.sumC | refine OLe.bind ?_ ?_ | intro _)
theorem slices_swapRangeCmpFunc_zone_occurrence_l0_le (N : Nat) (s1 s2 s3 s10 : Int) (b0 : Tn2) : OLe (@slices_swapRangeCmpFunc_zone_occurrence_l0 (natLP N) s1 s2 s3 s10 b0) (slices_swapRangeCmpFunc_zone_occurrence_l0 s1 s2 s3 s10 b0) := OLe.loop N _ fun h => OLe.refl _
theorem slices_swapRangeCmpFunc_zone_occurrence_le (N : Nat) (a0_data : Tn2) (a1_a a2_b a3_n : Int) : OLe (@slices_swapRangeCmpFunc_zone_occurrence (natLP N) a0_data a1_a a2_b a3_n) (slices_swapRangeCmpFunc_zone_occurrence a0_data a1_a a2_b a3_n) := by
 unfold slices_swapRangeCmpFunc_zone_occurrence
 with_reducible repeat' (first | exact OLe.refl _ | exact OLe.none _ | exact slices_swapRangeCmpFunc_zone_occurrence_l0_le N _ _ _ _ _ | apply OLe.cond | apply OLe.sumC | refine OLe.bind ?_ ?_ | intro _)
theorem slices_rotateCmpFunc_zone_occurrence_l0_step_le (N : Nat) (s2 s10 s11 : Int) (b0 : Tn2) : OLe (@slices_rotateCmpFunc_zone_occurrence_l0_step (natLP N) s2 s10 s11 b0) (slices_rotateCmpFunc_zone_occurrence_l0_step s2 s10 s11 b0) := by
 unfold slices_rotateCmpFunc_zone_occurrence_l0_step
 with_reducible repeat' (first | exact OLe.refl _ | exact OLe.none _ | exact slices_swapRangeCmpFunc_zone_occurrence_le N _ _ _ _ | apply OLe.cond | apply OLe.sumC | refine OLe.bind ?_ ?_ | intro _)
theorem slices_rotateCmpFunc_zone_occurrence_l0_le (N : Nat) (s2 s10 s11 : Int) (b0 : Tn2) : OLe (@slices_rotateCmpFunc_zone_occurrence_l0 (natLP N) s2 s10 s11 b0) (slices_rotateCmpFunc_zone_occurrence_l0 s2 s10 s11 b0) := OLe.loop N _ fun h => slices_rotateCmpFunc_zone_occurrence_l0_step_le N _ _ _ _
theorem slices_rotateCmpFunc_zone_occurrence_le (N : Nat) (a0_data : Tn2) (a1_a a2_m a3_b : Int) : OLe (@slices_rotateCmpFunc_zone_occurrence (natLP N) a0_data a1_a a2_m a3_b) (slices_rotateCmpFunc_zone_occurrence a0_data a1_a a2_m a3_b) := by
 unfold slices_rotateCmpFunc_zone_occurrence
 with_reducible repeat' (first | exact OLe.refl _ | exact OLe.none _ | exact slices_rotateCmpFunc_zone_occurrence_l0_le N _ _ _ _ | exact slices_swapRangeCmpFunc_zone_occurrence_le N _ _ _ _ | apply OLe.cond | apply OLe.sumC | refine OLe.bind ?_ ?_ | intro _)
theorem slices_symMergeCmpFunc_zone_occurrence_l0_le (N : Nat) (rec rec' : Tn2 → Int → Int → Int → Option (Tn2)) (hrec : ∀ v0 v1 v2 v3, OLe (rec v0 v1 v2 v3) (rec' v0 v1 v2 v3)) (s1 s10 s11 : Int) (b0 : Tn2) : OLe (@slices_symMergeCmpFunc_zone_occurrence_l0 (natLP N) rec s1 s10 s11 b0) (slices_symMergeCmpFunc_zone_occurrence_l0 rec' s1 s10 s11 b0) := OLe.loop N _ fun h => OLe.refl _
theorem slices_symMergeCmpFunc_zone_occurrence_l0_mono (rec rec' : Tn2 → Int → Int → Int → Option (Tn2)) (hrec : ∀ v0 v1 v2 v3, OLe (rec v0 v1 v2 v3) (rec' v0 v1 v2 v3)) (s1 s10 s11 : Int) (b0 : Tn2) : OLe (slices_symMergeCmpFunc_zone_occurrence_l0 rec s1 s10 s11 b0) (slices_symMergeCmpFunc_zone_occurrence_l0 rec' s1 s10 s11 b0) := OLe.loopOpt _ fun h => OLe.refl _
theorem slices_symMergeCmpFunc_zone_occurrence_l2_le (N : Nat) (rec rec' : Tn2 → Int → Int → Int → Option (Tn2)) (hrec : ∀ v0 v1 v2 v3, OLe (rec v0 v1 v2 v3) (rec' v0 v1 v2 v3)) (s10 s13 : Int) (b0 : Tn2) : OLe (@slices_symMergeCmpFunc_zone_occurrence_l2 (natLP N) rec s10 s13 b0) (slices_symMergeCmpFunc_zone_occurrence_l2 rec' s10 s13 b0) := OLe.loop N _ fun h => OLe.refl _
theorem slices_symMergeCmpFunc_zone_occurrence_l2_mono (rec rec' : Tn2 → Int → Int → Int → Option (Tn2)) (hrec : ∀ v0 v1 v2 v3, OLe (rec v0 v1 v2 v3) (rec' v0 v1 v2 v3)) (s10 s13 : Int) (b0 : Tn2) : OLe (slices_symMergeCmpFunc_zone_occurrence_l2 rec s10 s13 b0) (slices_symMergeCmpFunc_zone_occurrence_l2 rec' s10 s13 b0) := OLe.loopOpt _ fun h => OLe.refl _
theorem slices_symMergeCmpFunc_zone_occurrence_l4_le (N : Nat) (rec rec' : Tn2 → Int → Int → Int → Option (Tn2)) (hrec : ∀ v0 v1 v2 v3, OLe (rec v0 v1 v2 v3) (rec' v0 v1 v2 v3)) (s2 s14 s15 : Int) (b0 : Tn2) : OLe (@slices_symMergeCmpFunc_zone_occurrence_l4 (natLP N) rec s2 s14 s15 b0) (slices_symMergeCmpFunc_zone_occurrence_l4 rec' s2 s14 s15 b0) := OLe.loop N _ fun h => OLe.refl _
theorem slices_symMergeCmpFunc_zone_occurrence_l4_mono (rec rec' : Tn2 → Int → Int → Int → Option (Tn2)) (hrec : ∀ v0 v1 v2 v3, OLe (rec v0 v1 v2 v3) (rec' v0 v1 v2 v3)) (s2 s14 s15 : Int) (b0 : Tn2) : OLe (slices_symMergeCmpFunc_zone_occurrence_l4 rec s2 s14 s15 b0) (slices_symMergeCmpFunc_zone_occurrence_l4 rec' s2 s14 s15 b0) := OLe.loopOpt _ fun h => OLe.refl _
theorem slices_symMergeCmpFunc_zone_occurrence_l6_le (N : Nat) (rec rec' : Tn2 → Int → Int → Int → Option (Tn2)) (hrec : ∀ v0 v1 v2 v3, OLe (rec v0 v1 v2 v3) (rec' v0 v1 v2 v3)) (s14 s17 : Int) (b0 : Tn2) : OLe (@slices_symMergeCmpFunc_zone_occurrence_l6 (natLP N) rec s14 s17 b0) (slices_symMergeCmpFunc_zone_occurrence_l6 rec' s14 s17 b0) := OLe.loop N _ fun h => OLe.refl _
theorem slices_symMergeCmpFunc_zone_occurrence_l6_mono (rec rec' : Tn2 → Int → Int → Int → Option (Tn2)) (hrec : ∀ v0 v1 v2 v3, OLe (rec v0 v1 v2 v3) (rec' v0 v1 v2 v3)) (s14 s17 : Int) (b0 : Tn2) : OLe (slices_symMergeCmpFunc_zone_occurrence_l6 rec s14 s17 b0) (slices_symMergeCmpFunc_zone_occurrence_l6 rec' s14 s17 b0) := OLe.loopOpt _ fun h => OLe.refl _
theorem slices_symMergeCmpFunc_zone_occurrence_l8_le (N : Nat) (rec rec' : Tn2 → Int → Int → Int → Option (Tn2)) (hrec : ∀ v0 v1 v2 v3, OLe (rec v0 v1 v2 v3) (rec' v0 v1 v2 v3)) (s1 s2 s3 s18 s19 s20 s21 s22 : Int) (b0 : Tn2) : OLe (@slices_symMergeCmpFunc_zone_occurrence_l8 (natLP N) rec s1 s2 s3 s18 s19 s20 s21 s22 b0) (slices_symMergeCmpFunc_zone_occurrence_l8 rec' s1 s2 s3 s18 s19 s20 s21 s22 b0) := OLe.loop N _ fun h => OLe.refl _
theorem slices_symMergeCmpFunc_zone_occurrence_l8_mono (rec rec' : Tn2 → Int → Int → Int → Option (Tn2)) (hrec : ∀ v0 v1 v2 v3, OLe (rec v0 v1 v2 v3) (rec' v0 v1 v2 v3)) (s1 s2 s3 s18 s19 s20 s21 s22 : Int) (b0 : Tn2) : OLe (slices_symMergeCmpFunc_zone_occurrence_l8 rec s1 s2 s3 s18 s19 s20 s21 s22 b0) (slices_symMergeCmpFunc_zone_occurrence_l8 rec' s1 s2 s3 s18 s19 s20 s21 s22 b0) := OLe.loopOpt _ fun h => OLe.refl _
theorem slices_symMergeCmpFunc_zone_occurrence_body_le (N : Nat) (rec rec' : Tn2 → Int → Int → Int → Option (Tn2)) (hrec : ∀ v0 v1 v2 v3, OLe (rec v0 v1 v2 v3) (rec' v0 v1 v2 v3)) (a0_data : Tn2) (a1_a a2_m a3_b : Int) : OLe (@slices_symMergeCmpFunc_zone_occurrence_body (natLP N) rec a0_data a1_a a2_m a3_b) (slices_symMergeCmpFunc_zone_occurrence_body rec' a0_data a1_a a2_m a3_b) := by
 unfold slices_symMergeCmpFunc_zone_occurrence_body
 with_reducible repeat' (first | exact OLe.refl _ | exact OLe.none _ | exact hrec _ _ _ _ | exact slices_symMergeCmpFunc_zone_occurrence_l0_le N _ _ hrec _ _ _ _ | exact slices_symMergeCmpFunc_zone_occurrence_l2_le N _ _ hrec _ _ _ | exact slices_symMergeCmpFunc_zone_occurrence_l4_le N _ _ hrec _ _ _ _ | exact slices_symMergeCmpFunc_zone_occurrence_l6_le N _ _ hrec _ _ _ | exact slices_symMergeCmpFunc_zone_occurrence_l8_le N _ _ hrec _ _ _ _ _ _ _ _ _ | exact slices_rotateCmpFunc_zone_occurrence_le N _ _ _ _ | apply OLe.cond | apply OLe.sumC | refine OLe.bind ?_ ?_ | intro _)
theorem slices_symMergeCmpFunc_zone_occurrence_body_mono (rec rec' : Tn2 → Int → Int → Int → Option (Tn2)) (hrec : ∀ v0 v1 v2 v3, OLe (rec v0 v1 v2 v3) (rec' v0 v1 v2 v3)) (a0_data : Tn2) (a1_a a2_m a3_b : Int) : OLe (slices_symMergeCmpFunc_zone_occurrence_body rec a0_data a1_a a2_m a3_b) (slices_symMergeCmpFunc_zone_occurrence_body rec' a0_data a1_a a2_m a3_b) := by
 unfold slices_symMergeCmpFunc_zone_occurrence_body
 with_reducible repeat' (first | exact OLe.refl _ | exact OLe.none _ | exact hrec _ _ _ _ | exact slices_symMergeCmpFunc_zone_occurrence_l0_mono _ _ hrec _ _ _ _ | exact slices_symMergeCmpFunc_zone_occurrence_l2_mono _ _ hrec _ _ _ | exact slices_symMergeCmpFunc_zone_occurrence_l4_mono _ _ hrec _ _ _ _ | exact slices_symMergeCmpFunc_zone_occurrence_l6_mono _ _ hrec _ _ _ | exact slices_symMergeCmpFunc_zone_occurrence_l8_mono _ _ hrec _ _ _ _ _ _ _ _ _ | apply OLe.cond | apply OLe.sumC | refine OLe.bind ?_ ?_ | intro _)
theorem slices_symMergeCmpFunc_zone_occurrence_rec_le (N : Nat) (g g' : (Tn2 × Int × Int × Int) → Option (Tn2)) (hg : ∀ a, OLe (g a) (g' a)) (h : Tn2 × Int × Int × Int) : OLe (@slices_symMergeCmpFunc_zone_occurrence_rec (natLP N) g h) (slices_symMergeCmpFunc_zone_occurrence_rec g' h) := slices_symMergeCmpFunc_zone_occurrence_body_le N _ _ (by intros; exact hg _) _ _ _ _
theorem slices_symMergeCmpFunc_zone_occurrence_rec_mono (g g' : (Tn2 × Int × Int × Int) → Option (Tn2)) (hg : ∀ a, OLe (g a) (g' a)) (h : Tn2 × Int × Int × Int) : OLe (slices_symMergeCmpFunc_zone_occurrence_rec g h) (slices_symMergeCmpFunc_zone_occurrence_rec g' h) := slices_symMergeCmpFunc_zone_occurrence_body_mono _ _ (by intros; exact hg _) _ _ _ _
theorem slices_symMergeCmpFunc_zone_occurrence_le (N : Nat) (a0_data : Tn2) (a1_a a2_m a3_b : Int) : OLe (@slices_symMergeCmpFunc_zone_occurrence (natLP N) a0_data a1_a a2_m a3_b) (slices_symMergeCmpFunc_zone_occurrence a0_data a1_a a2_m a3_b) := OLe.rec N _ (fun g g' hg a => slices_symMergeCmpFunc_zone_occurrence_rec_le N g g' hg a) (fun g g' hg a => slices_symMergeCmpFunc_zone_occurrence_rec_mono g g' hg a)
theorem slices_stableCmpFunc_zone_occurrence_l0_step_le (N : Nat) (s1 s6 s7 s8 : Int) (b0 : Tn2) : OLe (@slices_stableCmpFunc_zone_occurrence_l0_step (natLP N) s1 s6 s7 s8 b0) (slices_stableCmpFunc_zone_occurrence_l0_step s1 s6 s7 s8 b0) := by
 unfold slices_stableCmpFunc_zone_occurrence_l0_step
 with_reducible repeat' (first | exact OLe.refl _ | exact OLe.none _ | exact slices_insertionSortCmpFunc_zone_occurrence_le N _ _ _ | apply OLe.cond | apply OLe.sumC | refine OLe.bind ?_ ?_ | intro _)
theorem slices_stableCmpFunc_zone_occurrence_l0_le (N : Nat) (s1 s6 s7 s8 : Int) (b0 : Tn2) : OLe (@slices_stableCmpFunc_zone_occurrence_l0 (natLP N) s1 s6 s7 s8 b0) (slices_stableCmpFunc_zone_occurrence_l0 s1 s6 s7 s8 b0) := OLe.loop N _ fun h => slices_stableCmpFunc_zone_occurrence_l0_step_le N _ _ _ _ _
theorem slices_stableCmpFunc_zone_occurrence_l4_step_le (N : Nat) (s1 s6 s7 s8 : Int) (b0 : Tn2) : OLe (@slices_stableCmpFunc_zone_occurrence_l4_step (natLP N) s1 s6 s7 s8 b0) (slices_stableCmpFunc_zone_occurrence_l4_step s1 s6 s7 s8 b0) := by
 unfold slices_stableCmpFunc_zone_occurrence_l4_step
 with_reducible repeat' (first | exact OLe.refl _ | exact OLe.none _ | exact slices_symMergeCmpFunc_zone_occurrence_le N _ _ _ _ | apply OLe.cond | apply OLe.sumC | refine OLe.bind ?_ ?_ | intro _)
theorem slices_stableCmpFunc_zone_occurrence_l4_le (N : Nat) (s1 s6 s7 s8 : Int) (b0 : Tn2) : OLe (@slices_stableCmpFunc_zone_occurrence_l4 (natLP N) s1 s6 s7 s8 b0) (slices_stableCmpFunc_zone_occurrence_l4 s1 s6 s7 s8 b0) := OLe.loop N _ fun h => slices_stableCmpFunc_zone_occurrence_l4_step_le N _ _ _ _ _
theorem slices_stableCmpFunc_zone_occurrence_l2_step_le (N : Nat) (s1 s6 : Int) (b0 : Tn2) : OLe (@slices_stableCmpFunc_zone_occurrence_l2_step (natLP N) s1 s6 b0) (slices_stableCmpFunc_zone_occurrence_l2_step s1 s6 b0) := by
 unfold slices_stableCmpFunc_zone_occurrence_l2_step
 with_reducible repeat' (first | exact OLe.refl _ | exact OLe.none _ | exact slices_stableCmpFunc_zone_occurrence_l4_le N _ _ _ _ _ | exact slices_symMergeCmpFunc_zone_occurrence_le N _ _ _ _ | apply OLe.cond | apply OLe.sumC | refine OLe.bind ?_ ?_ | intro _)
theorem slices_stableCmpFunc_zone_occurrence_l2_le (N : Nat) (s1 s6 : Int) (b0 : Tn2) : OLe (@slices_stableCmpFunc_zone_occurrence_l2 (natLP N) s1 s6 b0) (slices_stableCmpFunc_zone_occurrence_l2 s1 s6 b0) := OLe.loop N _ fun h => slices_stableCmpFunc_zone_occurrence_l2_step_le N _ _ _
theorem slices_stableCmpFunc_zone_occurrence_le (N : Nat) (a0_data : Tn2) (a1_n : Int) : OLe (@slices_stableCmpFunc_zone_occurrence (natLP N) a0_data a1_n) (slices_stableCmpFunc_zone_occurrence a0_data a1_n) := by
 unfold slices_stableCmpFunc_zone_occurrence
 with_reducible repeat' (first | exact OLe.refl _ | exact OLe.none _ | exact slices_stableCmpFunc_zone_occurrence_l0_le N _ _ _ _ _ | exact slices_insertionSortCmpFunc_zone_occurrence_le N _ _ _ | exact slices_stableCmpFunc_zone_occurrence_l2_le N _ _ _ | apply OLe.cond | apply OLe.sumC | refine OLe.bind ?_ ?_ | intro _)
theorem slices_SortStableFunc_zone_occurrence_zone_occurrence_le (N : Nat) (a0_x : Tn2) : OLe (@slices_SortStableFunc_zone_occurrence_zone_occurrence (natLP N) a0_x) (slices_SortStableFunc_zone_occurrence_zone_occurrence a0_x) := by
 unfold slices_SortStableFunc_zone_occurrence_zone_occurrence
 with_reducible repeat' (first | exact OLe.refl _ | exact OLe.none _ | exact slices_stableCmpFunc_zone_occurrence_le N _ _ | apply OLe.cond | apply OLe.sumC | refine OLe.bind ?_ ?_ | intro _)
theorem zone_occurrences_l0_le (N : Nat) (s4 : Int) (s23 : Tn44) (s24 s25 : Int) (b1 : ByteArray) (b1_1 : Int) (b1_2 : Tn44) : OLe (@zone_occurrences_l0 (natLP N) s4 s23 s24 s25 b1 b1_1 b1_2) (zone_occurrences_l0 s4 s23 s24 s25 b1 b1_1 b1_2) := OLe.loop N _ fun h => OLe.refl _
theorem zone_occurrences_l4_step_le (N : Nat) (s11 : Int) (s46 : Tn44) (s47 s48 b10 b10_1 b10_2 b10_3 b10_4 b10_5 b10_6 : Int) (l8 : Tn2) : OLe (@zone_occurrences_l4_step (natLP N) s11 s46 s47 s48 b10 b10_1 b10_2 b10_3 b10_4 b10_5 b10_6 l8) (zone_occurrences_l4_step s11 s46 s47 s48 b10 b10_1 b10_2 b10_3 b10_4 b10_5 b10_6 l8) := by
 unfold zone_occurrences_l4_step
 with_reducible repeat' (first | exact OLe.refl _ | exact OLe.none _ | exact civil_Nth_le N _ _ _ _ | apply OLe.cond | apply OLe.sumC | refine OLe.bind ?_ ?_ | intro _)
theorem zone_occurrences_l4_le (N : Nat) (s11 : Int) (s46 : Tn44) (s47 s48 b10 b10_1 b10_2 b10_3 b10_4 b10_5 b10_6 : Int) (l8 : Tn2) : OLe (@zone_occurrences_l4 (natLP N) s11 s46 s47 s48 b10 b10_1 b10_2 b10_3 b10_4 b10_5 b10_6 l8) (zone_occurrences_l4 s11 s46 s47 s48 b10 b10_1 b10_2 b10_3 b10_4 b10_5 b10_6 l8) := OLe.loop N _ fun h => zone_occurrences_l4_step_le N _ _ _ _ _ _ _ _ _ _ _ _
theorem zone_occurrences_l2_step_le (N : Nat) (s46 : Tn44) (s47 s48 : Int) (l8 : Tn2) : OLe (@zone_occurrences_l2_step (natLP N) s46 s47 s48 l8) (zone_occurrences_l2_step s46 s47 s48 l8) := by
 unfold zone_occurrences_l2_step
 with_reducible repeat' (first | exact OLe.refl _ | exact OLe.none _ | exact zone_occurrences_l4_le N _ _ _ _ _ _ _ _ _ _ _ _ | apply OLe.cond | apply OLe.sumC | refine OLe.bind ?_ ?_ | intro _)
theorem zone_occurrences_l2_le (N : Nat) (s46 : Tn44) (s47 s48 : Int) (l8 : Tn2) : OLe (@zone_occurrences_l2 (natLP N) s46 s47 s48 l8) (zone_occurrences_l2 s46 s47 s48 l8) := OLe.loop N _ fun h => zone_occurrences_l2_step_le N _ _ _ _
theorem zone_occurrences_le (N : Nat) (a0_z : Tn54) : OLe (@zone_occurrences (natLP N) a0_z) (zone_occurrences a0_z) := by
 unfold zone_occurrences
 with_reducible repeat' (first | exact OLe.refl _ | exact OLe.none _ | exact zone_occurrences_l0_le N _ _ _ _ _ _ _ | exact zone_occurrences_l2_le N _ _ _ _ | exact slices_SortStableFunc_zone_occurrence_zone_occurrence_le N _ | apply OLe.cond | apply OLe.sumC | refine OLe.bind ?_ ?_ | intro _)
theorem zone_Transitions_l0_le (N : Nat) (s7 s23 s24 : Int) (l6 l22 : Tn2) : OLe (@zone_Transitions_l0 (natLP N) s7 s23 s24 l6 l22) (zone_Transitions_l0 s7 s23 s24 l6 l22) := OLe.loop N _ fun h => OLe.refl _
theorem zone_Transitions_le (N : Nat) (a0_z : Tn54) : OLe (@zone_Transitions (natLP N) a0_z) (zone_Transitions a0_z) := by
 unfold zone_Transitions
 with_reducible repeat' (first | exact OLe.refl _ | exact OLe.none _ | exact zone_occurrences_le N _ | exact zone_Transitions_l0_le N _ _ _ _ _ | apply OLe.cond | apply OLe.sumC | refine OLe.bind ?_ ?_ | intro _)
theorem zone_Check_le (N : Nat) (a0_z : Tn54) : OLe (@zone_Check (natLP N) a0_z) (zone_Check a0_z) := by
 unfold zone_Check
 with_reducible repeat' (first | exact OLe.refl _ | exact OLe.none _ | exact zone_Transitions_le N _ | apply OLe.cond | apply OLe.sumC | refine OLe.bind ?_ ?_ | intro _)
theorem slices_IndexFunc_api_YearRule_api_YearRule_l0_le (N : Nat) (s0 : Tn44) (s7 s8 : Int) : OLe (@slices_IndexFunc_api_YearRule_api_YearRule_l0 (natLP N) s0 s7 s8) (slices_IndexFunc_api_YearRule_api_YearRule_l0 s0 s7 s8) := OLe.loop N _ fun h => OLe.refl _
theorem slices_IndexFunc_api_YearRule_api_YearRule_le (N : Nat) (a0_s : Tn44) : OLe (@slices_IndexFunc_api_YearRule_api_YearRule (natLP N) a0_s) (slices_IndexFunc_api_YearRule_api_YearRule a0_s) := by
 unfold slices_IndexFunc_api_YearRule_api_YearRule
 with_reducible repeat' (first | exact OLe.refl _ | exact OLe.none _ | exact slices_IndexFunc_api_YearRule_api_YearRule_l0_le N _ _ _ | apply OLe.cond | apply OLe.sumC | refine OLe.bind ?_ ?_ | intro _)
theorem slices_ContainsFunc_api_YearRule_api_YearRule_le (N : Nat) (a0_s : Tn44) : OLe (@slices_ContainsFunc_api_YearRule_api_YearRule (natLP N) a0_s) (slices_ContainsFunc_api_YearRule_api_YearRule a0_s) := by
 unfold slices_ContainsFunc_api_YearRule_api_YearRule
 with_reducible repeat' (first | exact OLe.refl _ | exact OLe.none _ | exact slices_IndexFunc_api_YearRule_api_YearRule_le N _ | apply OLe.cond | apply OLe.sumC | refine OLe.bind ?_ ?_ | intro _)
theorem resolve_checkZone_le (N : Nat) (a0_z : Tn54) : OLe (@resolve_checkZone (natLP N) a0_z) (resolve_checkZone a0_z) := by
 unfold resolve_checkZone
 with_reducible repeat' (first | exact OLe.refl _ | exact OLe.none _ | exact zone_Check_le N _ | exact slices_ContainsFunc_api_YearRule_api_YearRule_le N _ | apply OLe.cond | apply OLe.sumC | refine OLe.bind ?_ ?_ | intro _)
theorem resolve_named_api_Zone_l0_step_le (N : Nat) (s13 : Tn56) (s14 s15 : Int) (l7 : (List (ByteArray × Bool))) : OLe (@resolve_named_api_Zone_l0_step (natLP N) s13 s14 s15 l7) (resolve_named_api_Zone_l0_step s13 s14 s15 l7) := by
 unfold resolve_named_api_Zone_l0_step
 with_reducible repeat' (first | exact OLe.refl _ | exact OLe.none _ | exact resolve_name_le N _ _ | exact resolve_checkZone_le N _ | apply OLe.cond | apply OLe.sumC | refine OLe.bind ?_ ?_ | intro _)
theorem resolve_named_api_Zone_l0_le (N : Nat) (s13 : Tn56) (s14 s15 : Int) (l7 : (List (ByteArray × Bool))) : OLe (@resolve_named_api_Zone_l0 (natLP N) s13 s14 s15 l7) (resolve_named_api_Zone_l0 s13 s14 s15 l7) := OLe.loop N _ fun h => resolve_named_api_Zone_l0_step_le N _ _ _ _
theorem resolve_named_api_Zone_le (N : Nat) (a0_l : Tn56) : OLe (@resolve_named_api_Zone (natLP N) a0_l) (resolve_named_api_Zone a0_l) := by
 unfold resolve_named_api_Zone
 with_reducible repeat' (first | exact OLe.refl _ | exact OLe.none _ | exact resolve_named_api_Zone_l0_le N _ _ _ _ | apply OLe.cond | apply OLe.sumC | refine OLe.bind ?_ ?_ | intro _)
theorem week_Check_l0_le (N : Nat) (s0 s8 : Tn2) (s9 s10 : Int) : OLe (@week_Check_l0 (natLP N) s0 s8 s9 s10) (week_Check_l0 s0 s8 s9 s10) := OLe.loop N _ fun h => OLe.refl _
theorem week_Check_le (N : Nat) (a0_l : Tn2) : OLe (@week_Check (natLP N) a0_l) (week_Check a0_l) := by
 unfold week_Check
 with_reducible repeat' (first | exact OLe.refl _ | exact OLe.none _ | exact week_Check_l0_le N _ _ _ _ | apply OLe.cond | apply OLe.sumC | refine OLe.bind ?_ ?_ | intro _)
theorem resolve_checkPerson_le (N : Nat) (a0_c : Tn73) (a1_p : Tn46) : OLe (@resolve_checkPerson (natLP N) a0_c a1_p) (resolve_checkPerson a0_c a1_p) := by
 unfold resolve_checkPerson
 with_reducible repeat' (first | exact OLe.refl _ | exact OLe.none _ | exact week_Check_le N _ | apply OLe.cond | apply OLe.sumC | refine OLe.bind ?_ ?_ | intro _)
theorem civil_year_l0_le (N : Nat) (s0 s3 : Int) : OLe (@civil_year_l0 (natLP N) s0 s3) (civil_year_l0 s0 s3) := OLe.loop N _ fun h => OLe.refl _
theorem civil_year_le (N : Nat) (a0_day : Int) : OLe (@civil_year (natLP N) a0_day) (civil_year a0_day) := by
 unfold civil_year
 with_reducible repeat' (first | exact OLe.refl _ | exact OLe.none _ | exact civil_year_l0_le N _ _ | apply OLe.cond | apply OLe.sumC | refine OLe.bind ?_ ?_ | intro _)
theorem civil_DateOf_l0_le (N : Nat) (s5 b2 b2_1 b2_2 b4 b4_1 b4_2 : Int) : OLe (@civil_DateOf_l0 (natLP N) s5 b2 b2_1 b2_2 b4 b4_1 b4_2) (civil_DateOf_l0 s5 b2 b2_1 b2_2 b4 b4_1 b4_2) := OLe.loop N _ fun h => OLe.refl _
theorem civil_DateOf_le (N : Nat) (a0_day : Int) : OLe (@civil_DateOf (natLP N) a0_day) (civil_DateOf a0_day) := by
 unfold civil_DateOf
 with_reducible repeat' (first | exact OLe.refl _ | exact OLe.none _ | exact civil_year_le N _ | exact civil_DateOf_l0_le N _ _ _ _ _ _ _ | apply OLe.cond | apply OLe.sumC | refine OLe.bind ?_ ?_ | intro _)
theorem resolve_day_le (N : Nat) (a0_n : Int) : OLe (@resolve_day (natLP N) a0_n) (resolve_day a0_n) := by
 unfold resolve_day
 with_reducible repeat' (first | exact OLe.refl _ | exact OLe.none _ | exact civil_DateOf_le N _ | apply OLe.cond | apply OLe.sumC | refine OLe.bind ?_ ?_ | intro _)
theorem resolve_checkCalendar_c1_le (N : Nat) (a0_n : Int) : OLe (@resolve_checkCalendar_c1 (natLP N) a0_n) (resolve_checkCalendar_c1 a0_n) := by
 unfold resolve_checkCalendar_c1
 with_reducible repeat' (first | exact OLe.refl _ | exact OLe.none _ | exact resolve_day_le N _ | apply OLe.cond | apply OLe.sumC | refine OLe.bind ?_ ?_ | intro _)
theorem slices_IndexFunc_int_int_l0_step_le (N : Nat) (s0 : (List Int)) (s7 s8 : Int) : OLe (@slices_IndexFunc_int_int_l0_step (natLP N) s0 s7 s8) (slices_IndexFunc_int_int_l0_step s0 s7 s8) := by
 unfold slices_IndexFunc_int_int_l0_step
 with_reducible repeat' (first | exact OLe.refl _ | exact OLe.none _ | exact resolve_checkCalendar_c1_le N _ | apply OLe.cond | apply OLe.sumC | refine OLe.bind ?_ ?_ | intro _)
theorem slices_IndexFunc_int_int_l0_le (N : Nat) (s0 : (List Int)) (s7 s8 : Int) : OLe (@slices_IndexFunc_int_int_l0 (natLP N) s0 s7 s8) (slices_IndexFunc_int_int_l0 s0 s7 s8) := OLe.loop N _ fun h => slices_IndexFunc_int_int_l0_step_le N _ _ _
theorem slices_IndexFunc_int_int_le (N : Nat) (a0_s : (List Int)) : OLe (@slices_IndexFunc_int_int (natLP N) a0_s) (slices_IndexFunc_int_int a0_s) := by
 unfold slices_IndexFunc_int_int
 with_reducible repeat' (first | exact OLe.refl _ | exact OLe.none _ | exact slices_IndexFunc_int_int_l0_le N _ _ _ | apply OLe.cond | apply OLe.sumC | refine OLe.bind ?_ ?_ | intro _)
theorem slices_ContainsFunc_int_int_le (N : Nat) (a0_s : (List Int)) : OLe (@slices_ContainsFunc_int_int (natLP N) a0_s) (slices_ContainsFunc_int_int a0_s) := by
 unfold slices_ContainsFunc_int_int
 with_reducible repeat' (first | exact OLe.refl _ | exact OLe.none _ | exact slices_IndexFunc_int_int_le N _ | apply OLe.cond | apply OLe.sumC | refine OLe.bind ?_ ?_ | intro _)
theorem resolve_checkCalendar_l1_le (N : Nat) (s25 s26 : Int) (b3 : ByteArray) (b3_1 : Int) (b3_2 : (List Int)) : OLe (@resolve_checkCalendar_l1 (natLP N) s25 s26 b3 b3_1 b3_2) (resolve_checkCalendar_l1 s25 s26 b3 b3_1 b3_2) := OLe.loop N _ fun h => OLe.refl _
theorem resolve_checkCalendar_le (N : Nat) (a0_c : Tn73) (a1_x : Tn20) : OLe (@resolve_checkCalendar (natLP N) a0_c a1_x) (resolve_checkCalendar a0_c a1_x) := by
 unfold resolve_checkCalendar
 with_reducible repeat' (first | exact OLe.refl _ | exact OLe.none _ | exact slices_ContainsFunc_int_int_le N _ | exact resolve_checkCalendar_l1_le N _ _ _ _ _ | apply OLe.cond | apply OLe.sumC | refine OLe.bind ?_ ?_ | intro _)
theorem resolve_Check_c3_le (N : Nat) (a0_x : Tn20) (a1 : Tn56) (a1_1 : Tn50) (a1_2 : Tn27) (a1_3 : Tn67) : OLe (@resolve_Check_c3 (natLP N) a0_x a1 a1_1 a1_2 a1_3) (resolve_Check_c3 a0_x a1 a1_1 a1_2 a1_3) := by
 unfold resolve_Check_c3
 with_reducible repeat' (first | exact OLe.refl _ | exact OLe.none _ | exact resolve_checkCalendar_le N _ _ | apply OLe.cond | apply OLe.sumC | refine OLe.bind ?_ ?_ | intro _)
theorem resolve_named_api_Calendar_l0_step_le (N : Nat) (s2 : Tn56) (s2_1 : Tn50) (s2_2 : Tn27) (s2_3 : Tn67) (s13 : Tn27) (s14 s15 : Int) (l7 : (List (ByteArray × Bool))) : OLe (@resolve_named_api_Calendar_l0_step (natLP N) s2 s2_1 s2_2 s2_3 s13 s14 s15 l7) (resolve_named_api_Calendar_l0_step s2 s2_1 s2_2 s2_3 s13 s14 s15 l7) := by
 unfold resolve_named_api_Calendar_l0_step
 with_reducible repeat' (first | exact OLe.refl _ | exact OLe.none _ | exact resolve_name_le N _ _ | exact resolve_Check_c3_le N _ _ _ _ _ | apply OLe.cond | apply OLe.sumC | refine OLe.bind ?_ ?_ | intro _)
theorem resolve_named_api_Calendar_l0_le (N : Nat) (s2 : Tn56) (s2_1 : Tn50) (s2_2 : Tn27) (s2_3 : Tn67) (s13 : Tn27) (s14 s15 : Int) (l7 : (List (ByteArray × Bool))) : OLe (@resolve_named_api_Calendar_l0 (natLP N) s2 s2_1 s2_2 s2_3 s13 s14 s15 l7) (resolve_named_api_Calendar_l0 s2 s2_1 s2_2 s2_3 s13 s14 s15 l7) := OLe.loop N _ fun h => resolve_named_api_Calendar_l0_step_le N _ _ _ _ _ _ _ _
theorem resolve_named_api_Calendar_le (N : Nat) (a0_l : Tn27) (a2_check : Tn56) (a2_check_1 : Tn50) (a2_check_2 : Tn27) (a2_check_3 : Tn67) : OLe (@resolve_named_api_Calendar (natLP N) a0_l a2_check a2_check_1 a2_check_2 a2_check_3) (resolve_named_api_Calendar a0_l a2_check a2_check_1 a2_check_2 a2_check_3) := by
 unfold resolve_named_api_Calendar
 with_reducible repeat' (first | exact OLe.refl _ | exact OLe.none _ | exact resolve_named_api_Calendar_l0_le N _ _ _ _ _ _ _ _ | apply OLe.cond | apply OLe.sumC | refine OLe.bind ?_ ?_ | intro _)
theorem slices_IndexFunc_int_int_s2_l0_le (N : Nat) (s0 : (List Int)) (s1 : Tn56) (s1_1 : Tn50) (s1_2 : Tn27) (s1_3 : Tn67) (s7 s8 : Int) : OLe (@slices_IndexFunc_int_int_s2_l0 (natLP N) s0 s1 s1_1 s1_2 s1_3 s7 s8) (slices_IndexFunc_int_int_s2_l0 s0 s1 s1_1 s1_2 s1_3 s7 s8) := OLe.loop N _ fun h => OLe.refl _
theorem slices_IndexFunc_int_int_s2_le (N : Nat) (a0_s : (List Int)) (a1_f : Tn56) (a1_f_1 : Tn50) (a1_f_2 : Tn27) (a1_f_3 : Tn67) : OLe (@slices_IndexFunc_int_int_s2 (natLP N) a0_s a1_f a1_f_1 a1_f_2 a1_f_3) (slices_IndexFunc_int_int_s2 a0_s a1_f a1_f_1 a1_f_2 a1_f_3) := by
 unfold slices_IndexFunc_int_int_s2
 with_reducible repeat' (first | exact OLe.refl _ | exact OLe.none _ | exact slices_IndexFunc_int_int_s2_l0_le N _ _ _ _ _ _ _ | apply OLe.cond | apply OLe.sumC | refine OLe.bind ?_ ?_ | intro _)
theorem slices_ContainsFunc_int_int_s2_le (N : Nat) (a0_s : (List Int)) (a1_f : Tn56) (a1_f_1 : Tn50) (a1_f_2 : Tn27) (a1_f_3 : Tn67) : OLe (@slices_ContainsFunc_int_int_s2 (natLP N) a0_s a1_f a1_f_1 a1_f_2 a1_f_3) (slices_ContainsFunc_int_int_s2 a0_s a1_f a1_f_1 a1_f_2 a1_f_3) := by
 unfold slices_ContainsFunc_int_int_s2
 with_reducible repeat' (first | exact OLe.refl _ | exact OLe.none _ | exact slices_IndexFunc_int_int_s2_le N _ _ _ _ _ | apply OLe.cond | apply OLe.sumC | refine OLe.bind ?_ ?_ | intro _)
theorem resolve_checkLayer_le (N : Nat) (a0_c : Tn73) (a1_l : Tn61) : OLe (@resolve_checkLayer (natLP N) a0_c a1_l) (resolve_checkLayer a0_c a1_l) := by
 unfold resolve_checkLayer
 with_reducible repeat' (first | exact OLe.refl _ | exact OLe.none _ | exact resolve_day_le N _ | exact slices_ContainsFunc_int_int_s2_le N _ _ _ _ _ | exact week_Check_le N _ | apply OLe.cond | apply OLe.sumC | refine OLe.bind ?_ ?_ | intro _)
theorem resolve_checkSchedule_c2_le (N : Nat) (a0_l : Tn61) (a1 : Tn56) (a1_1 : Tn50) (a1_2 : Tn27) (a1_3 : Tn67) : OLe (@resolve_checkSchedule_c2 (natLP N) a0_l a1 a1_1 a1_2 a1_3) (resolve_checkSchedule_c2 a0_l a1 a1_1 a1_2 a1_3) := by
 unfold resolve_checkSchedule_c2
 with_reducible repeat' (first | exact OLe.refl _ | exact OLe.none _ | exact resolve_checkLayer_le N _ _ | apply OLe.cond | apply OLe.sumC | refine OLe.bind ?_ ?_ | intro _)
theorem resolve_named_api_Layer_l0_step_le (N : Nat) (s2 : Tn56) (s2_1 : Tn50) (s2_2 : Tn27) (s2_3 : Tn67) (s13 : Tn62) (s14 s15 : Int) (l7 : (List (ByteArray × Bool))) : OLe (@resolve_named_api_Layer_l0_step (natLP N) s2 s2_1 s2_2 s2_3 s13 s14 s15 l7) (resolve_named_api_Layer_l0_step s2 s2_1 s2_2 s2_3 s13 s14 s15 l7) := by
 unfold resolve_named_api_Layer_l0_step
 with_reducible repeat' (first | exact OLe.refl _ | exact OLe.none _ | exact resolve_name_le N _ _ | exact resolve_checkSchedule_c2_le N _ _ _ _ _ | apply OLe.cond | apply OLe.sumC | refine OLe.bind ?_ ?_ | intro _)
theorem resolve_named_api_Layer_l0_le (N : Nat) (s2 : Tn56) (s2_1 : Tn50) (s2_2 : Tn27) (s2_3 : Tn67) (s13 : Tn62) (s14 s15 : Int) (l7 : (List (ByteArray × Bool))) : OLe (@resolve_named_api_Layer_l0 (natLP N) s2 s2_1 s2_2 s2_3 s13 s14 s15 l7) (resolve_named_api_Layer_l0 s2 s2_1 s2_2 s2_3 s13 s14 s15 l7) := OLe.loop N _ fun h => resolve_named_api_Layer_l0_step_le N _ _ _ _ _ _ _ _
theorem resolve_named_api_Layer_le (N : Nat) (a0_l : Tn62) (a2_check : Tn56) (a2_check_1 : Tn50) (a2_check_2 : Tn27) (a2_check_3 : Tn67) : OLe (@resolve_named_api_Layer (natLP N) a0_l a2_check a2_check_1 a2_check_2 a2_check_3) (resolve_named_api_Layer a0_l a2_check a2_check_1 a2_check_2 a2_check_3) := by
 unfold resolve_named_api_Layer
 with_reducible repeat' (first | exact OLe.refl _ | exact OLe.none _ | exact resolve_named_api_Layer_l0_le N _ _ _ _ _ _ _ _ | apply OLe.cond | apply OLe.sumC | refine OLe.bind ?_ ?_ | intro _)
theorem resolve_checkEdit_le (N : Nat) (a0_c : Tn73) (a1_x : Tn25) : OLe (@resolve_checkEdit (natLP N) a0_c a1_x) (resolve_checkEdit a0_c a1_x) := by
 unfold resolve_checkEdit
 with_reducible repeat' (first | exact OLe.refl _ | exact OLe.none _ | exact resolve_day_le N _ | apply OLe.cond | apply OLe.sumC | refine OLe.bind ?_ ?_ | intro _)
theorem resolve_checkSchedule_l0_step_le (N : Nat) (s27 : Tn31) (s28 s29 : Int) (b2 : Tn56) (b2_1 : Tn50) (b2_2 : Tn27) (b2_3 : Tn67) : OLe (@resolve_checkSchedule_l0_step (natLP N) s27 s28 s29 b2 b2_1 b2_2 b2_3) (resolve_checkSchedule_l0_step s27 s28 s29 b2 b2_1 b2_2 b2_3) := by
 unfold resolve_checkSchedule_l0_step
 with_reducible repeat' (first | exact OLe.refl _ | exact OLe.none _ | exact resolve_checkEdit_le N _ _ | apply OLe.cond | apply OLe.sumC | refine OLe.bind ?_ ?_ | intro _)
theorem resolve_checkSchedule_l0_le (N : Nat) (s27 : Tn31) (s28 s29 : Int) (b2 : Tn56) (b2_1 : Tn50) (b2_2 : Tn27) (b2_3 : Tn67) : OLe (@resolve_checkSchedule_l0 (natLP N) s27 s28 s29 b2 b2_1 b2_2 b2_3) (resolve_checkSchedule_l0 s27 s28 s29 b2 b2_1 b2_2 b2_3) := OLe.loop N _ fun h => resolve_checkSchedule_l0_step_le N _ _ _ _ _ _ _
theorem resolve_checkSchedule_le (N : Nat) (a0_c : Tn73) (a1_s : Tn66) : OLe (@resolve_checkSchedule (natLP N) a0_c a1_s) (resolve_checkSchedule a0_c a1_s) := by
 unfold resolve_checkSchedule
 with_reducible repeat' (first | exact OLe.refl _ | exact OLe.none _ | exact resolve_named_api_Layer_le N _ _ _ _ _ | exact resolve_checkSchedule_l0_le N _ _ _ _ _ _ _ | apply OLe.cond | apply OLe.sumC | refine OLe.bind ?_ ?_ | intro _)
theorem resolve_Check_c5_le (N : Nat) (a0_s : Tn66) (a1 : Tn56) (a1_1 : Tn50) (a1_2 : Tn27) (a1_3 : Tn67) : OLe (@resolve_Check_c5 (natLP N) a0_s a1 a1_1 a1_2 a1_3) (resolve_Check_c5 a0_s a1 a1_1 a1_2 a1_3) := by
 unfold resolve_Check_c5
 with_reducible repeat' (first | exact OLe.refl _ | exact OLe.none _ | exact resolve_checkSchedule_le N _ _ | apply OLe.cond | apply OLe.sumC | refine OLe.bind ?_ ?_ | intro _)
theorem resolve_named_api_Schedule_l0_step_le (N : Nat) (s2 : Tn56) (s2_1 : Tn50) (s2_2 : Tn27) (s2_3 s13 : Tn67) (s14 s15 : Int) (l7 : (List (ByteArray × Bool))) : OLe (@resolve_named_api_Schedule_l0_step (natLP N) s2 s2_1 s2_2 s2_3 s13 s14 s15 l7) (resolve_named_api_Schedule_l0_step s2 s2_1 s2_2 s2_3 s13 s14 s15 l7) := by
 unfold resolve_named_api_Schedule_l0_step
 with_reducible repeat' (first | exact OLe.refl _ | exact OLe.none _ | exact resolve_name_le N _ _ | exact resolve_Check_c5_le N _ _ _ _ _ | apply OLe.cond | apply OLe.sumC | refine OLe.bind ?_ ?_ | intro _)
theorem resolve_named_api_Schedule_l0_le (N : Nat) (s2 : Tn56) (s2_1 : Tn50) (s2_2 : Tn27) (s2_3 s13 : Tn67) (s14 s15 : Int) (l7 : (List (ByteArray × Bool))) : OLe (@resolve_named_api_Schedule_l0 (natLP N) s2 s2_1 s2_2 s2_3 s13 s14 s15 l7) (resolve_named_api_Schedule_l0 s2 s2_1 s2_2 s2_3 s13 s14 s15 l7) := OLe.loop N _ fun h => resolve_named_api_Schedule_l0_step_le N _ _ _ _ _ _ _ _
theorem resolve_named_api_Schedule_le (N : Nat) (a0_l : Tn67) (a2_check : Tn56) (a2_check_1 : Tn50) (a2_check_2 : Tn27) (a2_check_3 : Tn67) : OLe (@resolve_named_api_Schedule (natLP N) a0_l a2_check a2_check_1 a2_check_2 a2_check_3) (resolve_named_api_Schedule a0_l a2_check a2_check_1 a2_check_2 a2_check_3) := by
 unfold resolve_named_api_Schedule
 with_reducible repeat' (first | exact OLe.refl _ | exact OLe.none _ | exact resolve_named_api_Schedule_l0_le N _ _ _ _ _ _ _ _ | apply OLe.cond | apply OLe.sumC | refine OLe.bind ?_ ?_ | intro _)
theorem resolve_Check_l0_step_le (N : Nat) (s39 : Tn50) (s40 s41 : Int) (b1 : Tn56) (b1_1 : Tn50) (b1_2 : Tn27) (b1_3 : Tn67) (l4 : (List (ByteArray × Bool))) : OLe (@resolve_Check_l0_step (natLP N) s39 s40 s41 b1 b1_1 b1_2 b1_3 l4) (resolve_Check_l0_step s39 s40 s41 b1 b1_1 b1_2 b1_3 l4) := by
 unfold resolve_Check_l0_step
 with_reducible repeat' (first | exact OLe.refl _ | exact OLe.none _ | exact resolve_name_le N _ _ | exact resolve_checkPerson_le N _ _ | apply OLe.cond | apply OLe.sumC | refine OLe.bind ?_ ?_ | intro _)
theorem resolve_Check_l0_le (N : Nat) (s39 : Tn50) (s40 s41 : Int) (b1 : Tn56) (b1_1 : Tn50) (b1_2 : Tn27) (b1_3 : Tn67) (l4 : (List (ByteArray × Bool))) : OLe (@resolve_Check_l0 (natLP N) s39 s40 s41 b1 b1_1 b1_2 b1_3 l4) (resolve_Check_l0 s39 s40 s41 b1 b1_1 b1_2 b1_3 l4) := OLe.loop N _ fun h => resolve_Check_l0_step_le N _ _ _ _ _ _ _ _
theorem resolve_Check_le (N : Nat) (a0_c : Tn73) : OLe (@resolve_Check (natLP N) a0_c) (resolve_Check a0_c) := by
 unfold resolve_Check
 with_reducible repeat' (first | exact OLe.refl _ | exact OLe.none _ | exact resolve_named_api_Zone_le N _ | exact resolve_Check_l0_le N _ _ _ _ _ _ _ _ | exact resolve_named_api_Calendar_le N _ _ _ _ _ | exact resolve_named_api_Schedule_le N _ _ _ _ _ | apply OLe.cond | apply OLe.sumC | refine OLe.bind ?_ ?_ | intro _)
theorem cycle_gcd_l0_le (N : Nat) (s0 s1 : Int) : OLe (@cycle_gcd_l0 (natLP N) s0 s1) (cycle_gcd_l0 s0 s1) := OLe.loop N _ fun h => OLe.refl _
theorem cycle_gcd_le (N : Nat) (a0_a a1_b : Int) : OLe (@cycle_gcd (natLP N) a0_a a1_b) (cycle_gcd a0_a a1_b) := by
 unfold cycle_gcd
 with_reducible repeat' (first | exact OLe.refl _ | exact OLe.none _ | exact cycle_gcd_l0_le N _ _ | apply OLe.cond | apply OLe.sumC | refine OLe.bind ?_ ?_ | intro _)
theorem cycle_Period_c1_le (N : Nat) (a0_n : Int) (a1_l : Tn61) : OLe (@cycle_Period_c1 (natLP N) a0_n a1_l) (cycle_Period_c1 a0_n a1_l) := by
 unfold cycle_Period_c1
 with_reducible repeat' (first | exact OLe.refl _ | exact OLe.none _ | exact cycle_gcd_le N _ _ | apply OLe.cond | apply OLe.sumC | refine OLe.bind ?_ ?_ | intro _)
theorem cycle_fold_api_Layer_int_l0_step_le (N : Nat) (s1 : Int) (s9 : Tn62) (s10 s11 : Int) : OLe (@cycle_fold_api_Layer_int_l0_step (natLP N) s1 s9 s10 s11) (cycle_fold_api_Layer_int_l0_step s1 s9 s10 s11) := by
 unfold cycle_fold_api_Layer_int_l0_step
 with_reducible repeat' (first | exact OLe.refl _ | exact OLe.none _ | exact cycle_Period_c1_le N _ _ | apply OLe.cond | apply OLe.sumC | refine OLe.bind ?_ ?_ | intro _)
theorem cycle_fold_api_Layer_int_l0_le (N : Nat) (s1 : Int) (s9 : Tn62) (s10 s11 : Int) : OLe (@cycle_fold_api_Layer_int_l0 (natLP N) s1 s9 s10 s11) (cycle_fold_api_Layer_int_l0 s1 s9 s10 s11) := OLe.loop N _ fun h => cycle_fold_api_Layer_int_l0_step_le N _ _ _ _
theorem cycle_fold_api_Layer_int_le (N : Nat) (a0_l : Tn62) (a1_r : Int) : OLe (@cycle_fold_api_Layer_int (natLP N) a0_l a1_r) (cycle_fold_api_Layer_int a0_l a1_r) := by
 unfold cycle_fold_api_Layer_int
 with_reducible repeat' (first | exact OLe.refl _ | exact OLe.none _ | exact cycle_fold_api_Layer_int_l0_le N _ _ _ _ | apply OLe.cond | apply OLe.sumC | refine OLe.bind ?_ ?_ | intro _)
theorem cycle_Period_le (N : Nat) (a0_c : Tn73) (a1_schedule : Int) : OLe (@cycle_Period (natLP N) a0_c a1_schedule) (cycle_Period a0_c a1_schedule) := by
 unfold cycle_Period
 with_reducible repeat' (first | exact OLe.refl _ | exact OLe.none _ | exact resolve_Check_le N _ | exact cycle_fold_api_Layer_int_le N _ _ | apply OLe.cond | apply OLe.sumC | refine OLe.bind ?_ ?_ | intro _)
theorem zone_Of_le (N : Nat) (a0_z : Tn54) : OLe (@zone_Of (natLP N) a0_z) (zone_Of a0_z) := by
 unfold zone_Of
 with_reducible repeat' (first | exact OLe.refl _ | exact OLe.none _ | exact zone_Transitions_le N _ | apply OLe.cond | apply OLe.sumC | refine OLe.bind ?_ ?_ | intro _)
theorem zone_Tables_l0_step_le (N : Nat) (s8 : Tn56) (s9 s10 : Int) (l3 : Tn21) : OLe (@zone_Tables_l0_step (natLP N) s8 s9 s10 l3) (zone_Tables_l0_step s8 s9 s10 l3) := by
 unfold zone_Tables_l0_step
 with_reducible repeat' (first | exact OLe.refl _ | exact OLe.none _ | exact zone_Of_le N _ | apply OLe.cond | apply OLe.sumC | refine OLe.bind ?_ ?_ | intro _)
theorem zone_Tables_l0_le (N : Nat) (s8 : Tn56) (s9 s10 : Int) (l3 : Tn21) : OLe (@zone_Tables_l0 (natLP N) s8 s9 s10 l3) (zone_Tables_l0 s8 s9 s10 l3) := OLe.loop N _ fun h => zone_Tables_l0_step_le N _ _ _ _
theorem zone_Tables_le (N : Nat) (a0_l : Tn56) : OLe (@zone_Tables (natLP N) a0_l) (zone_Tables a0_l) := by
 unfold zone_Tables
 with_reducible repeat' (first | exact OLe.refl _ | exact OLe.none _ | exact zone_Tables_l0_le N _ _ _ _ | apply OLe.cond | apply OLe.sumC | refine OLe.bind ?_ ?_ | intro _)
theorem duty_view_le (N : Nat) (a0_c : Tn73) : OLe (@duty_view (natLP N) a0_c) (duty_view a0_c) := by
 unfold duty_view
 with_reducible repeat' (first | exact OLe.refl _ | exact OLe.none _ | exact zone_Tables_le N _ | apply OLe.cond | apply OLe.sumC | refine OLe.bind ?_ ?_ | intro _)
theorem duty_Of_le (N : Nat) (a0_c : Tn73) : OLe (@duty_Of (natLP N) a0_c) (duty_Of a0_c) := by
 unfold duty_Of
 with_reducible repeat' (first | exact OLe.refl _ | exact OLe.none _ | exact resolve_Check_le N _ | exact duty_view_le N _ | apply OLe.cond | apply OLe.sumC | refine OLe.bind ?_ ?_ | intro _)
theorem sort_Search_l0_le (N : Nat) (s1 : Int) (s1_1 : Tn2) (s1_2 s5 s6 : Int) : OLe (@sort_Search_l0 (natLP N) s1 s1_1 s1_2 s5 s6) (sort_Search_l0 s1 s1_1 s1_2 s5 s6) := OLe.loop N _ fun h => OLe.refl _
theorem sort_Search_le (N : Nat) (a0_n a1_f : Int) (a1_f_1 : Tn2) (a1_f_2 : Int) : OLe (@sort_Search (natLP N) a0_n a1_f a1_f_1 a1_f_2) (sort_Search a0_n a1_f a1_f_1 a1_f_2) := by
 unfold sort_Search
 with_reducible repeat' (first | exact OLe.refl _ | exact OLe.none _ | exact sort_Search_l0_le N _ _ _ _ _ | apply OLe.cond | apply OLe.sumC | refine OLe.bind ?_ ?_ | intro _)
theorem zone_Table_after_le (N : Nat) (a0_b : Tn14) (a1_t : Int) : OLe (@zone_Table_after (natLP N) a0_b a1_t) (zone_Table_after a0_b a1_t) := by
 unfold zone_Table_after
 with_reducible repeat' (first | exact OLe.refl _ | exact OLe.none _ | exact sort_Search_le N _ _ _ _ | apply OLe.cond | apply OLe.sumC | refine OLe.bind ?_ ?_ | intro _)
theorem zone_Table_Pieces_l0_step_le (N : Nat) (s1 s2 b3 : Int) (b3_1 : Tn2) (l7 : Tn15) : OLe (@zone_Table_Pieces_l0_step (natLP N) s1 s2 b3 b3_1 l7) (zone_Table_Pieces_l0_step s1 s2 b3 b3_1 l7) := by
 unfold zone_Table_Pieces_l0_step
 with_reducible repeat' (first | exact OLe.refl _ | exact OLe.none _ | exact zone_Table_after_le N _ _ | apply OLe.cond | apply OLe.sumC | refine OLe.bind ?_ ?_ | intro _)
theorem zone_Table_Pieces_l0_le (N : Nat) (s1 s2 b3 : Int) (b3_1 : Tn2) (l7 : Tn15) : OLe (@zone_Table_Pieces_l0 (natLP N) s1 s2 b3 b3_1 l7) (zone_Table_Pieces_l0 s1 s2 b3 b3_1 l7) := OLe.loop N _ fun h => zone_Table_Pieces_l0_step_le N _ _ _ _ _
theorem zone_Table_Pieces_le (N : Nat) (a0_b : Tn14) (a1_from a2_to : Int) : OLe (@zone_Table_Pieces (natLP N) a0_b a1_from a2_to) (zone_Table_Pieces a0_b a1_from a2_to) := by
 unfold zone_Table_Pieces
 with_reducible repeat' (first | exact OLe.refl _ | exact OLe.none _ | exact zone_Table_Pieces_l0_le N _ _ _ _ _ | apply OLe.cond | apply OLe.sumC | refine OLe.bind ?_ ?_ | intro _)
theorem zone_Table_First_l0_le (N : Nat) (s11 s12 b3 b3_1 : Int) (l10 : Tn15) : OLe (@zone_Table_First_l0 (natLP N) s11 s12 b3 b3_1 l10) (zone_Table_First_l0 s11 s12 b3 b3_1 l10) := OLe.loop N _ fun h => OLe.refl _
theorem zone_Table_First_le (N : Nat) (a0_b : Tn14) (a1_l : (Int × Int)) : OLe (@zone_Table_First (natLP N) a0_b a1_l) (zone_Table_First a0_b a1_l) := by
 unfold zone_Table_First
 with_reducible repeat' (first | exact OLe.refl _ | exact OLe.none _ | exact zone_Table_Pieces_le N _ _ _ | exact zone_Table_First_l0_le N _ _ _ _ _ | apply OLe.cond | apply OLe.sumC | refine OLe.bind ?_ ?_ | intro _)
theorem recur_HandoverOf_le (N : Nat) (a0_b : Tn14) (a1_l : Tn61) (a2_k : Int) : OLe (@recur_HandoverOf (natLP N) a0_b a1_l a2_k) (recur_HandoverOf a0_b a1_l a2_k) := by
 unfold recur_HandoverOf
 with_reducible repeat' (first | exact OLe.refl _ | exact OLe.none _ | exact zone_Table_First_le N _ _ | apply OLe.cond | apply OLe.sumC | refine OLe.bind ?_ ?_ | intro _)
theorem coverage_horizon_l0_le (N : Nat) (s18 : Tn31) (s19 s20 : Int) (b2 : Tn56) (b2_1 : Tn50) (b2_2 : Tn27) (b2_3 : Tn67) (b2_4 : Tn21) (b3 : ByteArray) (b3_1 : Tn62) (b3_2 : Tn31) (b5 : Int) : OLe (@coverage_horizon_l0 (natLP N) s18 s19 s20 b2 b2_1 b2_2 b2_3 b2_4 b3 b3_1 b3_2 b5) (coverage_horizon_l0 s18 s19 s20 b2 b2_1 b2_2 b2_3 b2_4 b3 b3_1 b3_2 b5) := OLe.loop N _ fun h => OLe.refl _
theorem coverage_horizon_l2_step_le (N : Nat) (s31 : Tn62) (s32 s33 : Int) (b2 : Tn56) (b2_1 : Tn50) (b2_2 : Tn27) (b2_3 : Tn67) (b2_4 : Tn21) (b5 : Int) : OLe (@coverage_horizon_l2_step (natLP N) s31 s32 s33 b2 b2_1 b2_2 b2_3 b2_4 b5) (coverage_horizon_l2_step s31 s32 s33 b2 b2_1 b2_2 b2_3 b2_4 b5) := by
 unfold coverage_horizon_l2_step
 with_reducible repeat' (first | exact OLe.refl _ | exact OLe.none _ | exact recur_HandoverOf_le N _ _ _ | exact zone_Table_First_le N _ _ | apply OLe.cond | apply OLe.sumC | refine OLe.bind ?_ ?_ | intro _)
theorem coverage_horizon_l2_le (N : Nat) (s31 : Tn62) (s32 s33 : Int) (b2 : Tn56) (b2_1 : Tn50) (b2_2 : Tn27) (b2_3 : Tn67) (b2_4 : Tn21) (b5 : Int) : OLe (@coverage_horizon_l2 (natLP N) s31 s32 s33 b2 b2_1 b2_2 b2_3 b2_4 b5) (coverage_horizon_l2 s31 s32 s33 b2 b2_1 b2_2 b2_3 b2_4 b5) := OLe.loop N _ fun h => coverage_horizon_l2_step_le N _ _ _ _ _ _ _ _ _
theorem coverage_horizon_le (N : Nat) (a0_v : Tn75) (a1_s : Tn66) : OLe (@coverage_horizon (natLP N) a0_v a1_s) (coverage_horizon a0_v a1_s) := by
 unfold coverage_horizon
 with_reducible repeat' (first | exact OLe.refl _ | exact OLe.none _ | exact coverage_horizon_l0_le N _ _ _ _ _ _ _ _ _ _ _ _ | exact coverage_horizon_l2_le N _ _ _ _ _ _ _ _ _ | apply OLe.cond | apply OLe.sumC | refine OLe.bind ?_ ?_ | intro _)
theorem coverage_Horizon_le (N : Nat) (a0_c : Tn73) (a1_schedule : Int) : OLe (@coverage_Horizon (natLP N) a0_c a1_schedule) (coverage_Horizon a0_c a1_schedule) := by
 unfold coverage_Horizon
 with_reducible repeat' (first | exact OLe.refl _ | exact OLe.none _ | exact duty_Of_le N _ | exact coverage_horizon_le N _ _ | apply OLe.cond | apply OLe.sumC | refine OLe.bind ?_ ?_ | intro _)
theorem cycle_Reduce_le (N : Nat) (a0_c : Tn73) (a1_schedule a2_t : Int) : OLe (@cycle_Reduce (natLP N) a0_c a1_schedule a2_t) (cycle_Reduce a0_c a1_schedule a2_t) := by
 unfold cycle_Reduce
 with_reducible repeat' (first | exact OLe.refl _ | exact OLe.none _ | exact cycle_Period_le N _ _ | exact coverage_Horizon_le N _ _ | apply OLe.cond | apply OLe.sumC | refine OLe.bind ?_ ?_ | intro _)
theorem zone_Table_Offset_le (N : Nat) (a0_b : Tn14) (a1_t : Int) : OLe (@zone_Table_Offset (natLP N) a0_b a1_t) (zone_Table_Offset a0_b a1_t) := by
 unfold zone_Table_Offset
 with_reducible repeat' (first | exact OLe.refl _ | exact OLe.none _ | exact zone_Table_after_le N _ _ | apply OLe.cond | apply OLe.sumC | refine OLe.bind ?_ ?_ | intro _)
theorem zone_Table_Local_le (N : Nat) (a0_b : Tn14) (a1_t : Int) : OLe (@zone_Table_Local (natLP N) a0_b a1_t) (zone_Table_Local a0_b a1_t) := by
 unfold zone_Table_Local
 with_reducible repeat' (first | exact OLe.refl _ | exact OLe.none _ | exact zone_Table_Offset_le N _ _ | apply OLe.cond | apply OLe.sumC | refine OLe.bind ?_ ?_ | intro _)
theorem recur_ShiftOf_l0_step_le (N : Nat) (s2 s9 b3 : Int) (b3_1 : Tn2) (b4 : ByteArray) (b4_1 b4_2 b4_3 b4_4 b4_5 : Int) (b4_6 : (List Int)) (b4_7 : Tn2) (b4_8 b4_9 : Int) : OLe (@recur_ShiftOf_l0_step (natLP N) s2 s9 b3 b3_1 b4 b4_1 b4_2 b4_3 b4_4 b4_5 b4_6 b4_7 b4_8 b4_9) (recur_ShiftOf_l0_step s2 s9 b3 b3_1 b4 b4_1 b4_2 b4_3 b4_4 b4_5 b4_6 b4_7 b4_8 b4_9) := by
 unfold recur_ShiftOf_l0_step
 with_reducible repeat' (first | exact OLe.refl _ | exact OLe.none _ | exact recur_HandoverOf_le N _ _ _ | apply OLe.cond | apply OLe.sumC | refine OLe.bind ?_ ?_ | intro _)
theorem recur_ShiftOf_l0_le (N : Nat) (s2 s9 b3 : Int) (b3_1 : Tn2) (b4 : ByteArray) (b4_1 b4_2 b4_3 b4_4 b4_5 : Int) (b4_6 : (List Int)) (b4_7 : Tn2) (b4_8 b4_9 : Int) : OLe (@recur_ShiftOf_l0 (natLP N) s2 s9 b3 b3_1 b4 b4_1 b4_2 b4_3 b4_4 b4_5 b4_6 b4_7 b4_8 b4_9) (recur_ShiftOf_l0 s2 s9 b3 b3_1 b4 b4_1 b4_2 b4_3 b4_4 b4_5 b4_6 b4_7 b4_8 b4_9) := OLe.loop N _ fun h => recur_ShiftOf_l0_step_le N _ _ _ _ _ _ _ _ _ _ _ _ _ _
theorem recur_ShiftOf_l2_step_le (N : Nat) (s2 s9 b3 : Int) (b3_1 : Tn2) (b4 : ByteArray) (b4_1 b4_2 b4_3 b4_4 b4_5 : Int) (b4_6 : (List Int)) (b4_7 : Tn2) (b4_8 b4_9 : Int) : OLe (@recur_ShiftOf_l2_step (natLP N) s2 s9 b3 b3_1 b4 b4_1 b4_2 b4_3 b4_4 b4_5 b4_6 b4_7 b4_8 b4_9) (recur_ShiftOf_l2_step s2 s9 b3 b3_1 b4 b4_1 b4_2 b4_3 b4_4 b4_5 b4_6 b4_7 b4_8 b4_9) := by
 unfold recur_ShiftOf_l2_step
 with_reducible repeat' (first | exact OLe.refl _ | exact OLe.none _ | exact recur_HandoverOf_le N _ _ _ | apply OLe.cond | apply OLe.sumC | refine OLe.bind ?_ ?_ | intro _)
theorem recur_ShiftOf_l2_le (N : Nat) (s2 s9 b3 : Int) (b3_1 : Tn2) (b4 : ByteArray) (b4_1 b4_2 b4_3 b4_4 b4_5 : Int) (b4_6 : (List Int)) (b4_7 : Tn2) (b4_8 b4_9 : Int) : OLe (@recur_ShiftOf_l2 (natLP N) s2 s9 b3 b3_1 b4 b4_1 b4_2 b4_3 b4_4 b4_5 b4_6 b4_7 b4_8 b4_9) (recur_ShiftOf_l2 s2 s9 b3 b3_1 b4 b4_1 b4_2 b4_3 b4_4 b4_5 b4_6 b4_7 b4_8 b4_9) := OLe.loop N _ fun h => recur_ShiftOf_l2_step_le N _ _ _ _ _ _ _ _ _ _ _ _ _ _
theorem recur_ShiftOf_le (N : Nat) (a0_b : Tn14) (a1_l : Tn61) (a2_t : Int) : OLe (@recur_ShiftOf (natLP N) a0_b a1_l a2_t) (recur_ShiftOf a0_b a1_l a2_t) := by
 unfold recur_ShiftOf
 with_reducible repeat' (first | exact OLe.refl _ | exact OLe.none _ | exact recur_HandoverOf_le N _ _ _ | exact zone_Table_Local_le N _ _ | exact recur_ShiftOf_l0_le N _ _ _ _ _ _ _ _ _ _ _ _ _ _ | exact recur_ShiftOf_l2_le N _ _ _ _ _ _ _ _ _ _ _ _ _ _ | apply OLe.cond | apply OLe.sumC | refine OLe.bind ?_ ?_ | intro _)
theorem week_Has_l0_le (N : Nat) (s1 : Int) (s7 : Tn2) (s8 s9 : Int) : OLe (@week_Has_l0 (natLP N) s1 s7 s8 s9) (week_Has_l0 s1 s7 s8 s9) := OLe.loop N _ fun h => OLe.refl _
theorem week_Has_le (N : Nat) (a0_l : Tn2) (a1_s : Int) : OLe (@week_Has (natLP N) a0_l a1_s) (week_Has a0_l a1_s) := by
 unfold week_Has
 with_reducible repeat' (first | exact OLe.refl _ | exact OLe.none _ | exact week_Has_l0_le N _ _ _ _ | apply OLe.cond | apply OLe.sumC | refine OLe.bind ?_ ?_ | intro _)
theorem slices_BinarySearch_int_int_l0_le (N : Nat) (s0 : (List Int)) (s1 s6 s7 s8 : Int) : OLe (@slices_BinarySearch_int_int_l0 (natLP N) s0 s1 s6 s7 s8) (slices_BinarySearch_int_int_l0 s0 s1 s6 s7 s8) := OLe.loop N _ fun h => OLe.refl _
theorem slices_BinarySearch_int_int_le (N : Nat) (a0_x : (List Int)) (a1_target : Int) : OLe (@slices_BinarySearch_int_int (natLP N) a0_x a1_target) (slices_BinarySearch_int_int a0_x a1_target) := by
 unfold slices_BinarySearch_int_int
 with_reducible repeat' (first | exact OLe.refl _ | exact OLe.none _ | exact slices_BinarySearch_int_int_l0_le N _ _ _ _ _ | apply OLe.cond | apply OLe.sumC | refine OLe.bind ?_ ?_ | intro _)
theorem duty_View_On_le (N : Nat) (a0_v : Tn75) (a1_l : Tn61) (a2_t : Int) : OLe (@duty_View_On (natLP N) a0_v a1_l a2_t) (duty_View_On a0_v a1_l a2_t) := by
 unfold duty_View_On
 with_reducible repeat' (first | exact OLe.refl _ | exact OLe.none _ | exact recur_ShiftOf_le N _ _ _ | exact zone_Table_Local_le N _ _ | exact week_Has_le N _ _ | exact slices_BinarySearch_int_int_le N _ _ | apply OLe.cond | apply OLe.sumC | refine OLe.bind ?_ ?_ | intro _)
theorem duty_View_Person_le (N : Nat) (a0_v : Tn75) (a1_l : Tn61) (a2_t : Int) : OLe (@duty_View_Person (natLP N) a0_v a1_l a2_t) (duty_View_Person a0_v a1_l a2_t) := by
 unfold duty_View_Person
 with_reducible repeat' (first | exact OLe.refl _ | exact OLe.none _ | exact duty_View_On_le N _ _ _ | apply OLe.cond | apply OLe.sumC | refine OLe.bind ?_ ?_ | intro _)
theorem slices_IndexFunc_api_Edit_api_Edit_l0_le (N : Nat) (s0 : Tn31) (s1 s1_1 s7 s8 : Int) : OLe (@slices_IndexFunc_api_Edit_api_Edit_l0 (natLP N) s0 s1 s1_1 s7 s8) (slices_IndexFunc_api_Edit_api_Edit_l0 s0 s1 s1_1 s7 s8) := OLe.loop N _ fun h => OLe.refl _
theorem slices_IndexFunc_api_Edit_api_Edit_le (N : Nat) (a0_s : Tn31) (a1_f a1_f_1 : Int) : OLe (@slices_IndexFunc_api_Edit_api_Edit (natLP N) a0_s a1_f a1_f_1) (slices_IndexFunc_api_Edit_api_Edit a0_s a1_f a1_f_1) := by
 unfold slices_IndexFunc_api_Edit_api_Edit
 with_reducible repeat' (first | exact OLe.refl _ | exact OLe.none _ | exact slices_IndexFunc_api_Edit_api_Edit_l0_le N _ _ _ _ _ | apply OLe.cond | apply OLe.sumC | refine OLe.bind ?_ ?_ | intro _)
theorem slices_ContainsFunc_api_Edit_api_Edit_le (N : Nat) (a0_s : Tn31) (a1_f a1_f_1 : Int) : OLe (@slices_ContainsFunc_api_Edit_api_Edit (natLP N) a0_s a1_f a1_f_1) (slices_ContainsFunc_api_Edit_api_Edit a0_s a1_f a1_f_1) := by
 unfold slices_ContainsFunc_api_Edit_api_Edit
 with_reducible repeat' (first | exact OLe.refl _ | exact OLe.none _ | exact slices_IndexFunc_api_Edit_api_Edit_le N _ _ _ | apply OLe.cond | apply OLe.sumC | refine OLe.bind ?_ ?_ | intro _)
theorem stack_Away_le (N : Nat) (a0_s : Tn66) (a1_person a2_t : Int) : OLe (@stack_Away (natLP N) a0_s a1_person a2_t) (stack_Away a0_s a1_person a2_t) := by
 unfold stack_Away
 with_reducible repeat' (first | exact OLe.refl _ | exact OLe.none _ | exact slices_ContainsFunc_api_Edit_api_Edit_le N _ _ _ | apply OLe.cond | apply OLe.sumC | refine OLe.bind ?_ ?_ | intro _)
theorem stack_LayerOf_l0_step_le (N : Nat) (n0 : Int) (s13 : Tn62) (b3 : Tn56) (b3_1 : Tn50) (b3_2 : Tn27) (b3_3 : Tn67) (b3_4 : Tn21) (b4 : ByteArray) (b4_1 : Tn62) (b4_2 : Tn31) (b5 b6 b7 : Int) : OLe (@stack_LayerOf_l0_step (natLP N) n0 s13 b3 b3_1 b3_2 b3_3 b3_4 b4 b4_1 b4_2 b5 b6 b7) (stack_LayerOf_l0_step n0 s13 b3 b3_1 b3_2 b3_3 b3_4 b4 b4_1 b4_2 b5 b6 b7) := by
 unfold stack_LayerOf_l0_step
 with_reducible repeat' (first | exact OLe.refl _ | exact OLe.none _ | exact duty_View_Person_le N _ _ _ | exact stack_Away_le N _ _ _ | apply OLe.cond | apply OLe.sumC | refine OLe.bind ?_ ?_ | intro _)
theorem stack_LayerOf_l0_le (N : Nat) (n0 : Int) (s13 : Tn62) (b3 : Tn56) (b3_1 : Tn50) (b3_2 : Tn27) (b3_3 : Tn67) (b3_4 : Tn21) (b4 : ByteArray) (b4_1 : Tn62) (b4_2 : Tn31) (b5 b6 b7 : Int) : OLe (@stack_LayerOf_l0 (natLP N) n0 s13 b3 b3_1 b3_2 b3_3 b3_4 b4 b4_1 b4_2 b5 b6 b7) (stack_LayerOf_l0 n0 s13 b3 b3_1 b3_2 b3_3 b3_4 b4 b4_1 b4_2 b5 b6 b7) := OLe.loop N _ fun h => stack_LayerOf_l0_step_le N _ _ _ _ _ _ _ _ _ _ _ _ _
theorem stack_LayerOf_le (N : Nat) (a0_v : Tn75) (a1_s : Tn66) (a2_t : Int) : OLe (@stack_LayerOf (natLP N) a0_v a1_s a2_t) (stack_LayerOf a0_v a1_s a2_t) := by
 unfold stack_LayerOf
 with_reducible repeat' (first | exact OLe.refl _ | exact OLe.none _ | exact stack_LayerOf_l0_le N _ _ _ _ _ _ _ _ _ _ _ _ _ | apply OLe.cond | apply OLe.sumC | refine OLe.bind ?_ ?_ | intro _)
theorem edit_Fold_l0_le (N : Nat) (s1 s2 : Int) (s9 : Tn31) (s10 s11 : Int) : OLe (@edit_Fold_l0 (natLP N) s1 s2 s9 s10 s11) (edit_Fold_l0 s1 s2 s9 s10 s11) := OLe.loop N _ fun h => OLe.refl _
theorem edit_Fold_le (N : Nat) (a0_l : Tn31) (a1_person a2_t : Int) : OLe (@edit_Fold (natLP N) a0_l a1_person a2_t) (edit_Fold a0_l a1_person a2_t) := by
 unfold edit_Fold
 with_reducible repeat' (first | exact OLe.refl _ | exact OLe.none _ | exact edit_Fold_l0_le N _ _ _ _ _ | apply OLe.cond | apply OLe.sumC | refine OLe.bind ?_ ?_ | intro _)
theorem edit_WhoOf_le (N : Nat) (a0_v : Tn75) (a1_s : Tn66) (a2_t : Int) : OLe (@edit_WhoOf (natLP N) a0_v a1_s a2_t) (edit_WhoOf a0_v a1_s a2_t) := by
 unfold edit_WhoOf
 with_reducible repeat' (first | exact OLe.refl _ | exact OLe.none _ | exact stack_LayerOf_le N _ _ _ | exact edit_Fold_le N _ _ _ | apply OLe.cond | apply OLe.sumC | refine OLe.bind ?_ ?_ | intro _)
theorem edit_Who_le (N : Nat) (a0_c : Tn73) (a1_schedule a2_t : Int) : OLe (@edit_Who (natLP N) a0_c a1_schedule a2_t) (edit_Who a0_c a1_schedule a2_t) := by
 unfold edit_Who
 with_reducible repeat' (first | exact OLe.refl _ | exact OLe.none _ | exact duty_Of_le N _ | exact edit_WhoOf_le N _ _ _ | apply OLe.cond | apply OLe.sumC | refine OLe.bind ?_ ?_ | intro _)
theorem roster_Who_le (N : Nat) (a0_c : Tn73) (a1_schedule a2_at : Int) : OLe (@roster_Who (natLP N) a0_c a1_schedule a2_at) (roster_Who a0_c a1_schedule a2_at) := by
 unfold roster_Who
 with_reducible repeat' (first | exact OLe.refl _ | exact OLe.none _ | exact edit_Who_le N _ _ _ | apply OLe.cond | apply OLe.sumC | refine OLe.bind ?_ ?_ | intro _)
theorem cycle_Far_le (N : Nat) (a0_c : Tn73) (a1_schedule a2_t : Int) : OLe (@cycle_Far (natLP N) a0_c a1_schedule a2_t) (cycle_Far a0_c a1_schedule a2_t) := by
 unfold cycle_Far
 with_reducible repeat' (first | exact OLe.refl _ | exact OLe.none _ | exact cycle_Reduce_le N _ _ _ | exact roster_Who_le N _ _ _ | apply OLe.cond | apply OLe.sumC | refine OLe.bind ?_ ?_ | intro _)
theorem law16_sane_le (N : Nat)  : OLe (@law16_sane (natLP N) ) (law16_sane ) := by
 unfold law16_sane
 with_reducible repeat' (first | exact OLe.refl _ | exact OLe.none _ | exact cycle_Period_le N _ _ | exact cycle_Reduce_le N _ _ _ | exact cycle_Far_le N _ _ _ | apply OLe.cond | apply OLe.sumC | refine OLe.bind ?_ ?_ | intro _)
abbrev resolve_day_x (N : Nat) := @resolve_day (natLP N)
end
end Go.Proofs.Pw
