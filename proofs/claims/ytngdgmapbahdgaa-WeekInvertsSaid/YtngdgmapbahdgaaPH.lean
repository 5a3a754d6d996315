/- Chapter 5: windows of a week, their complements, and what the functions of package week do with them. -/
import Derived.Test.YtngdgmapbahdgaaPD
import Derived.Test.YtngdgmapbahdgaaPB
import Derived.Test.YtngdgmapbahdgaaLD
open Go Go.Lft
namespace Go.Proofs.Pw

abbrev WL := List (Int × Int)

/-- Windows in order behind p. -/
def WOk (p : Int) : WL → Prop
  | [] => p ≤ 604800
  | x :: r => p ≤ x.1 ∧ x.1 < x.2 ∧ x.2 ≤ 604800 ∧ WOk x.2 r
/-- The complement from p on. -/
def winv (p : Int) : WL → WL
  | [] => if p < 604800 then [(p, 604800)] else []
  | x :: r => if p < x.1 then (p, x.1) :: winv x.2 r else winv x.2 r
def gaps (p : Int) : WL → WL
  | [] => []
  | x :: r => if p < x.1 then (p, x.1) :: gaps x.2 r else gaps x.2 r
def lastW (p : Int) : WL → Int
  | [] => p
  | x :: r => lastW x.2 r
def sumL : WL → Int
  | [] => 0
  | x :: r => (x.2 - x.1) + sumL r
def hasB (s : Int) : WL → Bool
  | [] => false
  | x :: r => cond (cond (decide (x.1 ≤ s)) (decide (s < x.2)) false) true (hasB s r)
def StW (p : Int) : WL → Prop
  | [] => True
  | x :: r => p < x.1 ∧ StW x.2 r

theorem WOk.top {p : Int} : ∀ {w : WL}, WOk p w → p ≤ 604800
  | [], h => h
  | _ :: _, h => by have := h.1; have := h.2.1; have := h.2.2.1; omega
theorem WOk.weak {p q : Int} (hq : q ≤ p) : ∀ {w : WL}, WOk p w → WOk q w
  | [], h => by show q ≤ 604800; have : p ≤ 604800 := h; omega
  | _ :: _, h => ⟨by have := h.1; omega, h.2⟩

theorem winv_ok : ∀ {w : WL} {p : Int}, WOk p w → WOk p (winv p w)
  | [], p, h => by
    simp only [winv]
    split
    · exact ⟨Int.le_refl _, by assumption, Int.le_refl _, Int.le_refl _⟩
    · exact h
  | x :: r, p, h => by
    obtain ⟨h1, h2, h3, h4⟩ := h
    simp only [winv]
    split
    · exact ⟨Int.le_refl _, by assumption, by dsimp only; omega, (winv_ok h4).weak (by dsimp only; omega)⟩
    · exact (winv_ok h4).weak (by omega)

theorem winv_split : ∀ (w : WL) (p : Int), winv p w = gaps p w ++ (if lastW p w < 604800 then [(lastW p w, 604800)] else [])
  | [], p => rfl
  | x :: r, p => by
    simp only [winv, gaps, lastW]
    rw [winv_split r x.2]
    split <;> rfl

theorem winv_len : ∀ (w : WL) (p : Int), (winv p w).length ≤ w.length + 1
  | [], p => by simp only [winv]; split <;> simp
  | x :: r, p => by
    simp only [winv]
    have := winv_len r x.2
    split <;> simp <;> omega
theorem gaps_len : ∀ (w : WL) (p : Int), (gaps p w).length ≤ w.length
  | [], p => by simp [gaps]
  | x :: r, p => by
    simp only [gaps]
    have := gaps_len r x.2
    split <;> simp <;> omega

theorem winv2_len : ∀ (w : WL) (p q : Int), WOk p w → q ≤ p → (winv q (winv p w)).length ≤ w.length + (if q < p then 1 else 0)
  | [], p, q, h, hq => by
    have hp : p ≤ 604800 := h
    simp only [winv]
    by_cases h1 : p < 604800
    · rw [if_pos h1]
      simp only [winv]
      split <;> simp
    · rw [if_neg h1]
      simp only [winv]
      by_cases h2 : q < 604800
      · rw [if_pos h2, if_pos (by omega)]; simp
      · rw [if_neg h2]; simp
  | x :: r, p, q, h, hq => by
    obtain ⟨h1, h2, h3, h4⟩ := h
    simp only [winv]
    by_cases hp : p < x.1
    · rw [if_pos hp]
      simp only [winv]
      have := winv2_len r x.2 x.1 h4 (by omega)
      rw [if_pos h2] at this
      by_cases hqp : q < p
      · rw [if_pos hqp, if_pos hqp]; simp; omega
      · rw [if_neg hqp, if_neg hqp]; simp; omega
    · rw [if_neg hp]
      have := winv2_len r x.2 q h4 (by omega)
      rw [if_pos (by omega)] at this
      simp; omega

theorem hasB_low : ∀ {w : WL} {p s : Int}, WOk p w → s < p → hasB s w = false
  | [], _, _, _, _ => rfl
  | x :: r, p, s, h, hs => by
    obtain ⟨h1, h2, h3, h4⟩ := h
    simp only [hasB]
    rw [dec_false (show ¬ x.1 ≤ s by omega), hasB_low h4 (by omega)]
    rfl

theorem winv_has : ∀ {w : WL} {p s : Int}, WOk p w → p ≤ s → s < 604800 → hasB s (winv p w) = !hasB s w
  | [], p, s, h, hs, ht => by
    simp only [winv]
    rw [if_pos (by omega)]
    simp only [hasB]
    rw [dec_true hs, dec_true ht]; rfl
  | x :: r, p, s, h, hs, ht => by
    obtain ⟨h1, h2, h3, h4⟩ := h
    by_cases hx : s < x.2
    · have hr : hasB s r = false := hasB_low h4 hx
      have hi : hasB s (winv x.2 r) = false := hasB_low (winv_ok h4) hx
      by_cases hy : s < x.1
      · simp only [winv]
        rw [if_pos (by omega)]
        simp only [hasB]
        rw [dec_true hs, dec_true hy, dec_false (show ¬ x.1 ≤ s by omega), hr]; rfl
      · simp only [winv]
        have hr' : hasB s (x :: r) = true := by
          simp only [hasB]
          rw [dec_true (show x.1 ≤ s by omega), dec_true hx]; rfl
        rw [hr']
        split
        · simp only [hasB]
          rw [dec_true hs, dec_false hy, hi]; rfl
        · exact hi
    · have ih := winv_has h4 (s := s) (by omega) ht
      have hr' : hasB s (x :: r) = hasB s r := by
        simp only [hasB]
        rw [dec_false hx]; cases decide (x.1 ≤ s) <;> rfl
      rw [hr', ← ih]
      simp only [winv]
      split
      · simp only [hasB]
        rw [dec_true hs, dec_false (show ¬ s < x.1 by omega)]; rfl
      · rfl

theorem winv_sum : ∀ {w : WL} {p : Int}, WOk p w → sumL w + sumL (winv p w) = 604800 - p
  | [], p, h => by
    have hp : p ≤ 604800 := h
    simp only [winv]
    split
    · simp only [sumL]; omega
    · simp only [sumL]; omega
  | x :: r, p, h => by
    obtain ⟨h1, h2, h3, h4⟩ := h
    have ih := winv_sum h4
    simp only [winv]
    split
    · simp only [sumL]; omega
    · simp only [sumL]; omega
theorem sumL_range : ∀ {w : WL} {p : Int}, WOk p w → 0 ≤ sumL w ∧ sumL w ≤ 604800 - p
  | [], p, h => by have hp : p ≤ 604800 := h; simp only [sumL]; omega
  | x :: r, p, h => by
    obtain ⟨h1, h2, h3, h4⟩ := h
    have := sumL_range h4
    simp only [sumL]; omega

theorem winv_st : ∀ {w : WL} {p q : Int}, WOk p w → q < p → StW q (winv p w)
  | [], p, q, _, hq => by
    simp only [winv]
    split
    · exact ⟨hq, trivial⟩
    · trivial
  | x :: r, p, q, h, hq => by
    obtain ⟨h1, h2, h3, h4⟩ := h
    simp only [winv]
    split
    · exact ⟨hq, winv_st h4 h2⟩
    · exact winv_st h4 (by omega)

theorem st_get : ∀ {w : WL} {p : Int}, StW p w → ∀ i, i + 1 < w.length → (w.getD i (0, 0)).2 < (w.getD (i + 1) (0, 0)).1
  | [], _, _, i, hi => by simp at hi
  | x :: [], _, _, i, hi => by simp at hi
  | x :: y :: r, p, h, i, hi => by
    cases i with
    | zero => exact h.2.1
    | succ i => exact st_get h.2 i (by simpa using hi)

theorem wok_get : ∀ {w : WL} {p : Int}, WOk p w → ∀ i, i < w.length → p ≤ (w.getD i (0, 0)).1 ∧ (w.getD i (0, 0)).1 < (w.getD i (0, 0)).2 ∧ (w.getD i (0, 0)).2 ≤ 604800
  | [], _, _, i, hi => by simp at hi
  | x :: r, p, h, i, hi => by
    obtain ⟨h1, h2, h3, h4⟩ := h
    cases i with
    | zero => exact ⟨h1, h2, h3⟩
    | succ i => exact wok_get (h4.weak (show p ≤ x.2 by omega)) i (by simpa using hi)
theorem wok_gap : ∀ {w : WL} {p : Int}, WOk p w → ∀ i, i + 1 < w.length → (w.getD i (0, 0)).2 ≤ (w.getD (i + 1) (0, 0)).1
  | [], _, _, i, hi => by simp at hi
  | x :: [], _, _, i, hi => by simp at hi
  | x :: y :: r, p, h, i, hi => by
    cases i with
    | zero => exact h.2.2.2.1
    | succ i => exact wok_gap h.2.2.2 i (by simpa using hi)

/-! The functions. -/

theorem Check_lp {w : WL} (h : WOk 0 w) (hl : w.length ≤ 14) : ∀ (n i : Nat), i + n = w.length → week_Check_l0 w w (w.length : Int) (i : Int) = some (.inr ())
  | 0, i, hi => by
    rw [week_Check_l0_eq]
    simp only [week_Check_l0_step]
    rw [dec_false (by omega), cond_false, lpK_inr]
  | n + 1, i, hi => by
    have ih := Check_lp h hl n (i + 1) (by omega)
    have hg := wok_get h i (by omega)
    rw [week_Check_l0_eq]
    simp only [week_Check_l0_step]
    rw [dec_true (show (i : Int) < (w.length : Int) by omega), inR_t (by omega) (by omega)]
    simp only [cond_true, Int.toNat_natCast]
    rw [dec_false (show ¬ (w.getD i ((0 : Int), (0 : Int))).1 < 0 by omega), dec_false (show ¬ (w.getD i ((0 : Int), (0 : Int))).1 ≥ (w.getD i ((0 : Int), (0 : Int))).2 by omega), dec_false (show ¬ (w.getD i ((0 : Int), (0 : Int))).2 > 604800 by omega)]
    rw [w64_in (x := (i : Int) + 1) (by omega) (by omega)]
    simp only [cond_false]
    by_cases h0 : i = 0
    · rw [dec_false (by omega)]
      simp only [cond_false, lpK_inl]
      exact ih
    · obtain ⟨j, rfl⟩ : ∃ j, i = j + 1 := ⟨i - 1, by omega⟩
      have hgap := wok_gap h j (by omega)
      rw [dec_true (by omega), w64_in (x := ((j + 1 : Nat) : Int) - 1) (by omega) (by omega), inR_t (by omega) (by omega), show (((j + 1 : Nat) : Int) - 1).toNat = j by omega, dec_false (by omega)]
      simp only [cond_true, cond_false, lpK_inl]
      exact ih

theorem Check_ok {w : WL} (h : WOk 0 w) (hl : w.length ≤ 14) : week_Check w = some 0 := by
  have := Check_lp h hl w.length 0 (by omega)
  rw [show ((0 : Nat) : Int) = 0 from rfl] at this
  simp only [week_Check, show Int.ofNat (List.length w) = (w.length : Int) from rfl]
  rw [dec_false (by omega), cond_false, this]
  rfl

theorem Invert_lp {w : WL} (hl : w.length ≤ 14) : ∀ (n i : Nat) (p : Int) (acc : WL), i + n = w.length → acc.length ≤ i → week_Invert_l0 p w (w.length : Int) (i : Int) acc = some (lastW p (w.drop i), acc ++ gaps p (w.drop i))
  | 0, i, p, acc, hi, _ => by
    rw [week_Invert_l0_eq]
    simp only [week_Invert_l0_step]
    rw [dec_false (by omega), cond_false, lpK_inr, List.drop_of_length_le (by omega)]
    simp [lastW, gaps]
  | n + 1, i, p, acc, hi, ha => by
    have hlt : i < w.length := by omega
    have hgd : w.getD i ((0 : Int), (0 : Int)) = w[i] := by simp [hlt]
    rw [week_Invert_l0_eq, List.drop_eq_getElem_cons hlt]
    simp only [week_Invert_l0_step]
    rw [dec_true (show (i : Int) < (w.length : Int) by omega), inR_t (by omega) (by omega)]
    simp only [cond_true, Int.toNat_natCast, hgd, gaps, lastW]
    rw [w64_in (x := (i : Int) + 1) (by omega) (by omega)]
    by_cases hp : p < w[i].1
    · rw [dec_true hp, if_pos hp, dec_true (by simp [sizeMax]; omega)]
      simp only [cond_true, lpK_inl]
      have := Invert_lp hl n (i + 1) w[i].2 (acc ++ [(p, w[i].1)]) (by omega) (by simp; omega)
      rw [List.append_assoc] at this
      exact this
    · rw [dec_false hp, if_neg hp]
      simp only [cond_false, lpK_inl]
      exact Invert_lp hl n (i + 1) w[i].2 acc (by omega) (by omega)

theorem Invert_ok {w : WL} (h : WOk 0 w) (hl : w.length ≤ 13) : week_Invert w = some (winv 0 w, 0) := by
  have := Invert_lp (w := w) (by omega) w.length 0 0 [] (by omega) (by simp)
  rw [show ((0 : Nat) : Int) = 0 from rfl, List.drop_zero, List.nil_append] at this
  have hg := gaps_len w 0
  simp only [week_Invert, Check_ok h (by omega), Option.bind_some, bne_self_eq_false, cond_false, show Int.ofNat (List.length w) = (w.length : Int) from rfl, this]
  rw [winv_split]
  by_cases hl0 : lastW 0 w < 604800
  · rw [dec_true hl0, if_pos hl0, dec_true (by simp [sizeMax]; omega)]
    simp only [cond_true]
    rw [dec_false (by simp; omega), cond_false]
  · rw [dec_false hl0, if_neg hl0]
    simp only [cond_false]
    rw [dec_false (by simp; omega), cond_false, List.append_nil]

theorem Length_lp {w : WL} (h : WOk 0 w) (hl : w.length ≤ 14) : ∀ (n i : Nat) (s : Int), i + n = w.length → 0 ≤ s → s ≤ 604800 * i → week_Length_l0 s w (w.length : Int) (i : Int) = some (s + sumL (w.drop i))
  | 0, i, s, hi, _, _ => by
    rw [week_Length_l0_eq]
    simp only [week_Length_l0_step]
    rw [dec_false (by omega), cond_false, lpK_inr, List.drop_of_length_le (by omega)]
    simp [sumL]
  | n + 1, i, s, hi, hs, hs2 => by
    have hlt : i < w.length := by omega
    have hgd : w.getD i ((0 : Int), (0 : Int)) = w[i] := by simp [hlt]
    have hg := wok_get h i (by omega)
    rw [hgd] at hg
    rw [week_Length_l0_eq, List.drop_eq_getElem_cons hlt]
    simp only [week_Length_l0_step]
    rw [dec_true (show (i : Int) < (w.length : Int) by omega), inR_t (by omega) (by omega)]
    simp only [cond_true, Int.toNat_natCast, hgd, sumL]
    rw [w64_in (x := (i : Int) + 1) (by omega) (by omega), w64_in (x := w[i].2 - w[i].1) (by omega) (by omega), w64_in (x := s + (w[i].2 - w[i].1)) (by omega) (by omega), lpK_inl]
    have := Length_lp h hl n (i + 1) (s + (w[i].2 - w[i].1)) (by omega) (by omega) (by omega)
    rw [show s + (w[i].2 - w[i].1 + sumL (w.drop (i + 1))) = s + (w[i].2 - w[i].1) + sumL (w.drop (i + 1)) by omega]
    exact this

theorem Length_ok {w : WL} (h : WOk 0 w) (hl : w.length ≤ 14) : week_Length w = some (sumL w) := by
  have := Length_lp h hl w.length 0 0 (by omega) (by omega) (by omega)
  rw [show ((0 : Nat) : Int) = 0 from rfl, List.drop_zero, Int.zero_add] at this
  simp only [week_Length, Check_ok h hl, Option.bind_some, bne_self_eq_false, cond_false, show Int.ofNat (List.length w) = (w.length : Int) from rfl, this]

theorem Has_lp {w : WL} (hl : w.length ≤ 14) (s : Int) : ∀ (n i : Nat), i + n = w.length → week_Has_l0 s w (w.length : Int) (i : Int) = some (cond (hasB s (w.drop i)) (.inl true) (.inr ()))
  | 0, i, hi => by
    rw [week_Has_l0_eq]
    simp only [week_Has_l0_step]
    rw [dec_false (by omega), cond_false, lpK_inr, List.drop_of_length_le (by omega)]
    rfl
  | n + 1, i, hi => by
    have hlt : i < w.length := by omega
    have hgd : w.getD i ((0 : Int), (0 : Int)) = w[i] := by simp [hlt]
    have ih := Has_lp hl s n (i + 1) (by omega)
    rw [week_Has_l0_eq, List.drop_eq_getElem_cons hlt]
    simp only [week_Has_l0_step]
    rw [dec_true (show (i : Int) < (w.length : Int) by omega), inR_t (by omega) (by omega)]
    simp only [cond_true, Int.toNat_natCast, hgd, hasB]
    rw [w64_in (x := (i : Int) + 1) (by omega) (by omega)]
    cases hb : cond (decide (w[i].1 ≤ s)) (decide (s < w[i].2)) false with
    | true => simp only [cond_true, lpK_inr]
    | false => simp only [cond_false, lpK_inl]; exact ih

theorem Has_ok {w : WL} (hl : w.length ≤ 14) (s : Int) : week_Has w s = some (hasB s w) := by
  have := Has_lp hl s w.length 0 (by omega)
  rw [show ((0 : Nat) : Int) = 0 from rfl, List.drop_zero] at this
  simp only [week_Has, show Int.ofNat (List.length w) = (w.length : Int) from rfl, this, Option.bind_some]
  cases hasB s w <;> rfl

theorem Second_ok {z : ByteArray × (Int × List Rule)} {l : TrL} (h : ZTab z l) {t : Int} (h0 : 1000000 ≤ t) (h1 : t ≤ 8589934592) : ∃ s, week_Second z t = some (s, 0) ∧ 0 ≤ s ∧ s < 604800 := by
  obtain ⟨k, hk, hk1, hk2⟩ := ex_piece h.2 (t := t) (by omega) (by omega)
  have o0 := h.2.of0 k hk; have o1 := h.2.of1 k hk
  simp only [week_Second, show zone_ToLocal (z.1, (z.2.1, z.2.2)) t = _ from ToLocal_ok h (by omega) h1 hk hk1 hk2, Option.bind_some, bne_self_eq_false, cond_false, week_SecondOf]
  rw [Weekday_nn _ (by omega)]
  simp only [Option.bind_some]
  rw [w64_in (x := ((t + tof z.2.1 l k) / 86400 + 3) % 7 * 86400) (by omega) (by omega), w64_in (by omega) (by omega)]
  exact ⟨_, rfl, by omega, by omega⟩

theorem In_ok {z : ByteArray × (Int × List Rule)} {t s : Int} (hs : week_Second z t = some (s, 0)) {w : WL} (h : WOk 0 w) (hl : w.length ≤ 14) : week_In z w t = some (hasB s w) := by
  simp only [week_In, show week_Second (z.1, (z.2.1, z.2.2)) t = _ from hs, Option.bind_some, beq_self_eq_true, cond_true, Check_ok h hl, Has_ok hl s]

/-! The dice. -/

theorem Windows_lp {L : List Int} : ∀ (n : Nat) (p a : Int) (acc : WL), DOk L a → 0 ≤ p → p ≤ 604800 → acc.length + n ≤ 100 →
    ∃ w a', made_Dice_Windows_l0 p (n : Int) L a acc = some (L, a', acc ++ w) ∧ WOk p w ∧ w.length ≤ n ∧ DOk L a'
  | 0, p, a, acc, hd, _, hp, _ => by
    rw [made_Dice_Windows_l0_eq]
    simp only [made_Dice_Windows_l0_step]
    rw [dec_false (by omega), cond_false, lpK_inr]
    exact ⟨[], a, by simp, hp, by simp, hd⟩
  | n + 1, p, a, acc, hd, hp0, hp, ha => by
    obtain ⟨x, a1, e1, x0, x1, d1⟩ := Next_ok (n := 30) hd (by omega) (by omega)
    obtain ⟨y, a2, e2, y0, y1, d2⟩ := Next_ok (n := 2) d1 (by omega) (by omega)
    obtain ⟨q, a3, e3, m3, d3⟩ := Pick_ok d2 (xs := [(3600 : Int), (28800 : Int), (43200 : Int), (86400 : Int), (61 : Int), (1 : Int)]) (by simp) (by simp)
    have hq : 1 ≤ q ∧ q ≤ 86400 := by simp at m3; omega
    rw [made_Dice_Windows_l0_eq]
    simp only [made_Dice_Windows_l0_step]
    rw [dec_true (by omega)]
    simp only [cond_true, e1, e2, e3, Option.bind_some]
    rw [w64_in (x := 3600 * x) (by omega) (by omega), w64_in (x := p + 3600 * x) (by omega) (by omega), w64_in (x := 60 * y) (by omega) (by omega), w64_in (x := p + 3600 * x + 60 * y) (by omega) (by omega), w64_in (x := p + 3600 * x + 60 * y + q) (by omega) (by omega), w64_in (x := ((n + 1 : Nat) : Int) - 1) (by omega) (by omega)]
    by_cases hbig : p + 3600 * x + 60 * y + q > 604800
    · rw [dec_true hbig, cond_true, lpK_inr]
      exact ⟨[], a3, by simp, hp, by simp, d3⟩
    · rw [dec_false hbig, dec_true (by simp [sizeMax]; omega)]
      simp only [cond_false, cond_true, lpK_inl]
      obtain ⟨w, a4, e4, hw, hwl, d4⟩ := Windows_lp n (p + 3600 * x + 60 * y + q) a3 (acc ++ [(p + 3600 * x + 60 * y, p + 3600 * x + 60 * y + q)]) d3 (by omega) (by omega) (by simp; omega)
      rw [show ((n + 1 : Nat) : Int) - 1 = (n : Int) by omega]
      refine ⟨(p + 3600 * x + 60 * y, p + 3600 * x + 60 * y + q) :: w, a4, by rw [e4, List.append_assoc]; rfl, ⟨by dsimp only; omega, by dsimp only; omega, by dsimp only; omega, hw⟩, by simp; omega, d4⟩

theorem Windows_ok {L : List Int} {a : Int} (h : DOk L a) : ∃ w a', made_Dice_Windows L a = some (w, L, a') ∧ WOk 0 w ∧ w.length ≤ 3 ∧ DOk L a' := by
  obtain ⟨x, a1, e1, x0, x1, d1⟩ := Next_ok (n := 4) h (by omega) (by omega)
  obtain ⟨w, a', e2, h1, h2, h3⟩ := Windows_lp x.toNat 0 a1 [] d1 (by omega) (by omega) (by simp; omega)
  rw [show ((x.toNat : Nat) : Int) = x by omega, List.nil_append] at e2
  simp only [made_Dice_Windows, e1, Option.bind_some, e2]
  exact ⟨w, a', rfl, h1, by omega, h3⟩

theorem Instant_ok {L : List Int} {a : Int} (h : DOk L a) : ∃ t a', made_Dice_Instant L a = some (t, L, a') ∧ 1767139199 ≤ t ∧ t ≤ 1767139200 + 3600 * 575 + 3599 ∧ DOk L a' := by
  obtain ⟨x, a1, e1, x0, x1, d1⟩ := Next_ok (n := 576) h (by omega) (by omega)
  obtain ⟨y, a2, e2, y0, y1, d2⟩ := Next_ok (n := 3) d1 (by omega) (by omega)
  obtain ⟨q, a3, e3, m3, d3⟩ := Pick_ok d2 (xs := [(-1 : Int), (1 : Int), (1800 : Int), (3599 : Int)]) (by simp) (by simp)
  have hq : -1 ≤ q ∧ q ≤ 3599 := by simp at m3; omega
  simp only [made_Dice_Instant, e1, Option.bind_some, made_Dice_Bool, e2, e3]
  rw [w64_in (x := 3600 * x) (by omega) (by omega), w64_in (x := 1767139200 + 3600 * x) (by omega) (by omega), w64_in (x := 1767139200 + 3600 * x + q) (by omega) (by omega)]
  cases (y == w64 (3 - 1)) with
  | true => exact ⟨_, _, rfl, by omega, by omega, d3⟩
  | false => exact ⟨_, _, rfl, by omega, by omega, d2⟩
end Go.Proofs.Pw

/- Chapter 5: the law WeekInverts, on plain functions. -/
open Go Go.Lft
namespace Go.Proofs.Pw

theorem winv_lp {u w : WL} (hs : ∀ i, i + 1 < u.length → (u.getD i (0, 0)).2 < (u.getD (i + 1) (0, 0)).1) (hl : u.length ≤ 14) : ∀ (n i : Nat), i + 1 + n = u.length ∨ (u.length = 0 ∧ n = 0 ∧ i = 0) → law05_WeekInverts_l0 ((i + 1 : Nat) : Int) w u = some (.inr (w, u))
  | 0, i, hi => by
    rw [law05_WeekInverts_l0_eq]
    simp only [law05_WeekInverts_l0_step, show Int.ofNat (List.length u) = (u.length : Int) from rfl]
    rw [dec_false (by omega), cond_false, lpK_inr]
  | n + 1, i, hi => by
    have ih := winv_lp (w := w) hs hl n (i + 1) (by omega)
    have hg := hs i (by omega)
    rw [law05_WeekInverts_l0_eq]
    simp only [law05_WeekInverts_l0_step, show Int.ofNat (List.length u) = (u.length : Int) from rfl]
    rw [dec_true (show ((i + 1 : Nat) : Int) < (u.length : Int) by omega), inR_t (by omega) (by omega), w64_in (x := ((i + 1 : Nat) : Int) - 1) (by omega) (by omega), inR_t (by omega) (by omega), show (((i + 1 : Nat) : Int) - 1).toNat = i by omega, w64_in (x := ((i + 1 : Nat) : Int) + 1) (by omega) (by omega)]
    simp only [cond_true, Int.toNat_natCast]
    rw [dec_false (by omega), cond_false, lpK_inl]
    exact ih

theorem WeekInverts_true (t : List Int) (_h : Wf (.list (.int .i64)) t) (n : Int) (_h2 : Wf (.int .i64) n) : law05_WeekInverts t n = some true := by
  simp only [law05_WeekInverts, made_Light, Option.bind_some, show Int.ofNat (List.length t) = (t.length : Int) from rfl]
  by_cases hl : (t.length : Int) ≤ 500
  · rw [dec_true hl]
    simp only [Bool.not_true, cond_false, made_Roll, Option.bind_some]
    obtain ⟨o, rs, a1, e1, hm, d1⟩ := Zone_ok (L := t) (a := 0) ⟨by omega, by omega, by omega⟩ (ByteArray.mk #[97])
    have hz := hm.tab (ByteArray.mk #[97])
    obtain ⟨w, a2, e2, hw, hwl, d2⟩ := Windows_ok d1
    have hv := winv_ok hw
    have hvl := winv_len w 0
    have hu := winv_ok hv
    have hul := winv_len (winv 0 w) 0
    have hul2 := winv2_len w 0 0 hw (by omega)
    rw [if_neg (by omega)] at hul2
    have hsum := winv_sum hw
    have hr1 := sumL_range hw
    have hr2 := sumL_range hv
    have hst := st_get (winv_st hv (show (-1 : Int) < 0 by omega))
    obtain ⟨x, a3, e3, x0, x1, _⟩ := Instant_ok d2
    simp only [e1, e2, e3, Option.bind_some, Invert_ok hw (by omega), Invert_ok hv (by omega), Mod_eq n 3600 (by omega) (by omega), bne_self_eq_false, cond_false, Length_ok hw (by omega), Length_ok hv (by omega), Check_ok hv (by omega)]
    rw [w64_in (x := x + n % 3600) (by omega) (by omega), w64_in (x := sumL w + sumL (winv 0 w)) (by omega) (by omega), hsum]
    obtain ⟨s, hs, s0, s1⟩ := Second_ok hz (t := x + n % 3600) (by omega) (by omega)
    have i1 := In_ok hs hw (by omega)
    have i2 := In_ok hs hv (by omega)
    have i3 := In_ok hs hu (by omega)
    have b1 := winv_has hw s0 s1
    have b2 := winv_has hv s0 s1
    have lp := winv_lp (u := winv 0 (winv 0 w)) (w := w) hst (by omega) ((winv 0 (winv 0 w)).length - 1) 0 (by omega)
    rw [show ((0 + 1 : Nat) : Int) = 1 from rfl] at lp
    simp only [i1, i2, i3, Option.bind_some, lp, sumC_inr]
    rw [b2, b1, Bool.not_not]
    have hb : (hasB s w == !hasB s w) = false := by cases hasB s w <;> rfl
    rw [hb]
    simp only [show ((604800 : Int) - 0 != 604800) = false from rfl, cond_false, beq_self_eq_true, Bool.not_true, sane05, Option.bind_some]
    rw [dec_true (by simp; omega), cond_true]
  · rw [dec_false hl]
    simp only [Bool.not_false, cond_true, sane05, Option.bind_some]
end Go.Proofs.Pw
