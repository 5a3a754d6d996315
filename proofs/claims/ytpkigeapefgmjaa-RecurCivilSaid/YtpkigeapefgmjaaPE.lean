/- Chapter 5: windows of a week, their complements, and what the functions of package week do with them. -/
import Derived.Test.YtpkigeapefgmjaaPC
open Go Go.Lft
namespace Go.Proofs.Pw

abbrev WL := List (Int × Int)

/-- Windows in order behind p. -/
def WOk (p : Int) : WL → Prop
  | [] => p ≤ 604800
  | x :: r => p ≤ x.1 ∧ x.1 < x.2 ∧ x.2 ≤ 604800 ∧ WOk x.2 r
/-- The complement from p on. -/
def winv (p : Int) : WL → WL
  | [] => if p < 604800 then [(p, 604800)] else []
  | x :: r => if p < x.1 then (p, x.1) :: winv x.2 r else winv x.2 r
def gaps (p : Int) : WL → WL
  | [] => []
  | x :: r => if p < x.1 then (p, x.1) :: gaps x.2 r else gaps x.2 r
def lastW (p : Int) : WL → Int
  | [] => p
  | x :: r => lastW x.2 r
def sumL : WL → Int
  | [] => 0
  | x :: r => (x.2 - x.1) + sumL r
def hasB (s : Int) : WL → Bool
  | [] => false
  | x :: r => cond (cond (decide (x.1 ≤ s)) (decide (s < x.2)) false) true (hasB s r)
def StW (p : Int) : WL → Prop
  | [] => True
  | x :: r => p < x.1 ∧ StW x.2 r

theorem WOk.top {p : Int} : ∀ {w : WL}, WOk p w → p ≤ 604800
  | [], h => h
  | _ :: _, h => by have := h.1; have := h.2.1; have := h.2.2.1; omega
theorem WOk.weak {p q : Int} (hq : q ≤ p) : ∀ {w : WL}, WOk p w → WOk q w
  | [], h => by show q ≤ 604800; have : p ≤ 604800 := h; omega
  | _ :: _, h => ⟨by have := h.1; omega, h.2⟩

theorem winv_ok : ∀ {w : WL} {p : Int}, WOk p w → WOk p (winv p w)
  | [], p, h => by
    simp only [winv]
    split
    · exact ⟨Int.le_refl _, by assumption, Int.le_refl _, Int.le_refl _⟩
    · exact h
  | x :: r, p, h => by
    obtain ⟨h1, h2, h3, h4⟩ := h
    simp only [winv]
    split
    · exact ⟨Int.le_refl _, by assumption, by dsimp only; omega, (winv_ok h4).weak (by dsimp only; omega)⟩
    · exact (winv_ok h4).weak (by omega)

theorem winv_split : ∀ (w : WL) (p : Int), winv p w = gaps p w ++ (if lastW p w < 604800 then [(lastW p w, 604800)] else [])
  | [], p => rfl
  | x :: r, p => by
    simp only [winv, gaps, lastW]
    rw [winv_split r x.2]
    split <;> rfl

theorem winv_len : ∀ (w : WL) (p : Int), (winv p w).length ≤ w.length + 1
  | [], p => by simp only [winv]; split <;> simp
  | x :: r, p => by
    simp only [winv]
    have := winv_len r x.2
    split <;> simp <;> omega
theorem gaps_len : ∀ (w : WL) (p : Int), (gaps p w).length ≤ w.length
  | [], p => by simp [gaps]
  | x :: r, p => by
    simp only [gaps]
    have := gaps_len r x.2
    split <;> simp <;> omega

theorem winv2_len : ∀ (w : WL) (p q : Int), WOk p w → q ≤ p → (winv q (winv p w)).length ≤ w.length + (if q < p then 1 else 0)
  | [], p, q, h, hq => by
    have hp : p ≤ 604800 := h
    simp only [winv]
    by_cases h1 : p < 604800
    · rw [if_pos h1]
      simp only [winv]
      split <;> simp
    · rw [if_neg h1]
      simp only [winv]
      by_cases h2 : q < 604800
      · rw [if_pos h2, if_pos (by omega)]; simp
      · rw [if_neg h2]; simp
  | x :: r, p, q, h, hq => by
    obtain ⟨h1, h2, h3, h4⟩ := h
    simp only [winv]
    by_cases hp : p < x.1
    · rw [if_pos hp]
      simp only [winv]
      have := winv2_len r x.2 x.1 h4 (by omega)
      rw [if_pos h2] at this
      by_cases hqp : q < p
      · rw [if_pos hqp, if_pos hqp]; simp; omega
      · rw [if_neg hqp, if_neg hqp]; simp; omega
    · rw [if_neg hp]
      have := winv2_len r x.2 q h4 (by omega)
      rw [if_pos (by omega)] at this
      simp; omega

theorem hasB_low : ∀ {w : WL} {p s : Int}, WOk p w → s < p → hasB s w = false
  | [], _, _, _, _ => rfl
  | x :: r, p, s, h, hs => by
    obtain ⟨h1, h2, h3, h4⟩ := h
    simp only [hasB]
    rw [dec_false (show ¬ x.1 ≤ s by omega), hasB_low h4 (by omega)]
    rfl

theorem winv_has : ∀ {w : WL} {p s : Int}, WOk p w → p ≤ s → s < 604800 → hasB s (winv p w) = !hasB s w
  | [], p, s, h, hs, ht => by
    simp only [winv]
    rw [if_pos (by omega)]
    simp only [hasB]
    rw [dec_true hs, dec_true ht]; rfl
  | x :: r, p, s, h, hs, ht => by
    obtain ⟨h1, h2, h3, h4⟩ := h
    by_cases hx : s < x.2
    · have hr : hasB s r = false := hasB_low h4 hx
      have hi : hasB s (winv x.2 r) = false := hasB_low (winv_ok h4) hx
      by_cases hy : s < x.1
      · simp only [winv]
        rw [if_pos (by omega)]
        simp only [hasB]
        rw [dec_true hs, dec_true hy, dec_false (show ¬ x.1 ≤ s by omega), hr]; rfl
      · simp only [winv]
        have hr' : hasB s (x :: r) = true := by
          simp only [hasB]
          rw [dec_true (show x.1 ≤ s by omega), dec_true hx]; rfl
        rw [hr']
        split
        · simp only [hasB]
          rw [dec_true hs, dec_false hy, hi]; rfl
        · exact hi
    · have ih := winv_has h4 (s := s) (by omega) ht
      have hr' : hasB s (x :: r) = hasB s r := by
        simp only [hasB]
        rw [dec_false hx]; cases decide (x.1 ≤ s) <;> rfl
      rw [hr', ← ih]
      simp only [winv]
      split
      · simp only [hasB]
        rw [dec_true hs, dec_false (show ¬ s < x.1 by omega)]; rfl
      · rfl

theorem winv_sum : ∀ {w : WL} {p : Int}, WOk p w → sumL w + sumL (winv p w) = 604800 - p
  | [], p, h => by
    have hp : p ≤ 604800 := h
    simp only [winv]
    split
    · simp only [sumL]; omega
    · simp only [sumL]; omega
  | x :: r, p, h => by
    obtain ⟨h1, h2, h3, h4⟩ := h
    have ih := winv_sum h4
    simp only [winv]
    split
    · simp only [sumL]; omega
    · simp only [sumL]; omega
theorem sumL_range : ∀ {w : WL} {p : Int}, WOk p w → 0 ≤ sumL w ∧ sumL w ≤ 604800 - p
  | [], p, h => by have hp : p ≤ 604800 := h; simp only [sumL]; omega
  | x :: r, p, h => by
    obtain ⟨h1, h2, h3, h4⟩ := h
    have := sumL_range h4
    simp only [sumL]; omega

theorem winv_st : ∀ {w : WL} {p q : Int}, WOk p w → q < p → StW q (winv p w)
  | [], p, q, _, hq => by
    simp only [winv]
    split
    · exact ⟨hq, trivial⟩
    · trivial
  | x :: r, p, q, h, hq => by
    obtain ⟨h1, h2, h3, h4⟩ := h
    simp only [winv]
    split
    · exact ⟨hq, winv_st h4 h2⟩
    · exact winv_st h4 (by omega)

theorem st_get : ∀ {w : WL} {p : Int}, StW p w → ∀ i, i + 1 < w.length → (w.getD i (0, 0)).2 < (w.getD (i + 1) (0, 0)).1
  | [], _, _, i, hi => by simp at hi
  | x :: [], _, _, i, hi => by simp at hi
  | x :: y :: r, p, h, i, hi => by
    cases i with
    | zero => exact h.2.1
    | succ i => exact st_get h.2 i (by simpa using hi)

theorem wok_get : ∀ {w : WL} {p : Int}, WOk p w → ∀ i, i < w.length → p ≤ (w.getD i (0, 0)).1 ∧ (w.getD i (0, 0)).1 < (w.getD i (0, 0)).2 ∧ (w.getD i (0, 0)).2 ≤ 604800
  | [], _, _, i, hi => by simp at hi
  | x :: r, p, h, i, hi => by
    obtain ⟨h1, h2, h3, h4⟩ := h
    cases i with
    | zero => exact ⟨h1, h2, h3⟩
    | succ i => exact wok_get (h4.weak (show p ≤ x.2 by omega)) i (by simpa using hi)
theorem wok_gap : ∀ {w : WL} {p : Int}, WOk p w → ∀ i, i + 1 < w.length → (w.getD i (0, 0)).2 ≤ (w.getD (i + 1) (0, 0)).1
  | [], _, _, i, hi => by simp at hi
  | x :: [], _, _, i, hi => by simp at hi
  | x :: y :: r, p, h, i, hi => by
    cases i with
    | zero => exact h.2.2.2.1
    | succ i => exact wok_gap h.2.2.2 i (by simpa using hi)

/-! The functions. -/

theorem Check_lp {w : WL} (h : WOk 0 w) (hl : w.length ≤ 14) : ∀ (n i : Nat), i + n = w.length → week_Check_l0 w w (w.length : Int) (i : Int) = some (.inr ())
  | 0, i, hi => by
    rw [week_Check_l0_eq]
    simp only [week_Check_l0_step]
    rw [dec_false (by omega), cond_false, lpK_inr]
  | n + 1, i, hi => by
    have ih := Check_lp h hl n (i + 1) (by omega)
    have hg := wok_get h i (by omega)
    rw [week_Check_l0_eq]
    simp only [week_Check_l0_step]
    rw [dec_true (show (i : Int) < (w.length : Int) by omega), inR_t (by omega) (by omega)]
    simp only [cond_true, Int.toNat_natCast]
    rw [dec_false (show ¬ (w.getD i ((0 : Int), (0 : Int))).1 < 0 by omega), dec_false (show ¬ (w.getD i ((0 : Int), (0 : Int))).1 ≥ (w.getD i ((0 : Int), (0 : Int))).2 by omega), dec_false (show ¬ (w.getD i ((0 : Int), (0 : Int))).2 > 604800 by omega)]
    rw [w64_in (x := (i : Int) + 1) (by omega) (by omega)]
    simp only [cond_false]
    by_cases h0 : i = 0
    · rw [dec_false (by omega)]
      simp only [cond_false, lpK_inl]
      exact ih
    · obtain ⟨j, rfl⟩ : ∃ j, i = j + 1 := ⟨i - 1, by omega⟩
      have hgap := wok_gap h j (by omega)
      rw [dec_true (by omega), w64_in (x := ((j + 1 : Nat) : Int) - 1) (by omega) (by omega), inR_t (by omega) (by omega), show (((j + 1 : Nat) : Int) - 1).toNat = j by omega, dec_false (by omega)]
      simp only [cond_true, cond_false, lpK_inl]
      exact ih

theorem Check_ok {w : WL} (h : WOk 0 w) (hl : w.length ≤ 14) : week_Check w = some 0 := by
  have := Check_lp h hl w.length 0 (by omega)
  rw [show ((0 : Nat) : Int) = 0 from rfl] at this
  simp only [week_Check, show Int.ofNat (List.length w) = (w.length : Int) from rfl]
  rw [dec_false (by omega), cond_false, this]
  rfl

theorem Invert_lp {w : WL} (hl : w.length ≤ 14) : ∀ (n i : Nat) (p : Int) (acc : WL), i + n = w.length → acc.length ≤ i → week_Invert_l0 p w (w.length : Int) (i : Int) acc = some (lastW p (w.drop i), acc ++ gaps p (w.drop i))
  | 0, i, p, acc, hi, _ => by
    rw [week_Invert_l0_eq]
    simp only [week_Invert_l0_step]
    rw [dec_false (by omega), cond_false, lpK_inr, List.drop_of_length_le (by omega)]
    simp [lastW, gaps]
  | n + 1, i, p, acc, hi, ha => by
    have hlt : i < w.length := by omega
    have hgd : w.getD i ((0 : Int), (0 : Int)) = w[i] := by simp [hlt]
    rw [week_Invert_l0_eq, List.drop_eq_getElem_cons hlt]
    simp only [week_Invert_l0_step]
    rw [dec_true (show (i : Int) < (w.length : Int) by omega), inR_t (by omega) (by omega)]
    simp only [cond_true, Int.toNat_natCast, hgd, gaps, lastW]
    rw [w64_in (x := (i : Int) + 1) (by omega) (by omega)]
    by_cases hp : p < w[i].1
    · rw [dec_true hp, if_pos hp, dec_true (by simp [sizeMax]; omega)]
      simp only [cond_true, lpK_inl]
      have := Invert_lp hl n (i + 1) w[i].2 (acc ++ [(p, w[i].1)]) (by omega) (by simp; omega)
      rw [List.append_assoc] at this
      exact this
    · rw [dec_false hp, if_neg hp]
      simp only [cond_false, lpK_inl]
      exact Invert_lp hl n (i + 1) w[i].2 acc (by omega) (by omega)

theorem Invert_ok {w : WL} (h : WOk 0 w) (hl : w.length ≤ 13) : week_Invert w = some (winv 0 w, 0) := by
  have := Invert_lp (w := w) (by omega) w.length 0 0 [] (by omega) (by simp)
  rw [show ((0 : Nat) : Int) = 0 from rfl, List.drop_zero, List.nil_append] at this
  have hg := gaps_len w 0
  simp only [week_Invert, Check_ok h (by omega), Option.bind_some, bne_self_eq_false, cond_false, show Int.ofNat (List.length w) = (w.length : Int) from rfl, this]
  rw [winv_split]
  by_cases hl0 : lastW 0 w < 604800
  · rw [dec_true hl0, if_pos hl0, dec_true (by simp [sizeMax]; omega)]
    simp only [cond_true]
    rw [dec_false (by simp; omega), cond_false]
  · rw [dec_false hl0, if_neg hl0]
    simp only [cond_false]
    rw [dec_false (by simp; omega), cond_false, List.append_nil]

theorem Length_lp {w : WL} (h : WOk 0 w) (hl : w.length ≤ 14) : ∀ (n i : Nat) (s : Int), i + n = w.length → 0 ≤ s → s ≤ 604800 * i → week_Length_l0 s w (w.length : Int) (i : Int) = some (s + sumL (w.drop i))
  | 0, i, s, hi, _, _ => by
    rw [week_Length_l0_eq]
    simp only [week_Length_l0_step]
    rw [dec_false (by omega), cond_false, lpK_inr, List.drop_of_length_le (by omega)]
    simp [sumL]
  | n + 1, i, s, hi, hs, hs2 => by
    have hlt : i < w.length := by omega
    have hgd : w.getD i ((0 : Int), (0 : Int)) = w[i] := by simp [hlt]
    have hg := wok_get h i (by omega)
    rw [hgd] at hg
    rw [week_Length_l0_eq, List.drop_eq_getElem_cons hlt]
    simp only [week_Length_l0_step]
    rw [dec_true (show (i : Int) < (w.length : Int) by omega), inR_t (by omega) (by omega)]
    simp only [cond_true, Int.toNat_natCast, hgd, sumL]
    rw [w64_in (x := (i : Int) + 1) (by omega) (by omega), w64_in (x := w[i].2 - w[i].1) (by omega) (by omega), w64_in (x := s + (w[i].2 - w[i].1)) (by omega) (by omega), lpK_inl]
    have := Length_lp h hl n (i + 1) (s + (w[i].2 - w[i].1)) (by omega) (by omega) (by omega)
    rw [show s + (w[i].2 - w[i].1 + sumL (w.drop (i + 1))) = s + (w[i].2 - w[i].1) + sumL (w.drop (i + 1)) by omega]
    exact this

theorem Length_ok {w : WL} (h : WOk 0 w) (hl : w.length ≤ 14) : week_Length w = some (sumL w) := by
  have := Length_lp h hl w.length 0 0 (by omega) (by omega) (by omega)
  rw [show ((0 : Nat) : Int) = 0 from rfl, List.drop_zero, Int.zero_add] at this
  simp only [week_Length, Check_ok h hl, Option.bind_some, bne_self_eq_false, cond_false, show Int.ofNat (List.length w) = (w.length : Int) from rfl, this]

theorem Has_lp {w : WL} (hl : w.length ≤ 14) (s : Int) : ∀ (n i : Nat), i + n = w.length → week_Has_l0 s w (w.length : Int) (i : Int) = some (cond (hasB s (w.drop i)) (.inl true) (.inr ()))
  | 0, i, hi => by
    rw [week_Has_l0_eq]
    simp only [week_Has_l0_step]
    rw [dec_false (by omega), cond_false, lpK_inr, List.drop_of_length_le (by omega)]
    rfl
  | n + 1, i, hi => by
    have hlt : i < w.length := by omega
    have hgd : w.getD i ((0 : Int), (0 : Int)) = w[i] := by simp [hlt]
    have ih := Has_lp hl s n (i + 1) (by omega)
    rw [week_Has_l0_eq, List.drop_eq_getElem_cons hlt]
    simp only [week_Has_l0_step]
    rw [dec_true (show (i : Int) < (w.length : Int) by omega), inR_t (by omega) (by omega)]
    simp only [cond_true, Int.toNat_natCast, hgd, hasB]
    rw [w64_in (x := (i : Int) + 1) (by omega) (by omega)]
    cases hb : cond (decide (w[i].1 ≤ s)) (decide (s < w[i].2)) false with
    | true => simp only [cond_true, lpK_inr]
    | false => simp only [cond_false, lpK_inl]; exact ih

theorem Has_ok {w : WL} (hl : w.length ≤ 14) (s : Int) : week_Has w s = some (hasB s w) := by
  have := Has_lp hl s w.length 0 (by omega)
  rw [show ((0 : Nat) : Int) = 0 from rfl, List.drop_zero] at this
  simp only [week_Has, show Int.ofNat (List.length w) = (w.length : Int) from rfl, this, Option.bind_some]
  cases hasB s w <;> rfl

theorem Second_ok {z : ByteArray × (Int × List Rule)} {l : TrL} (h : ZTab z l) {t : Int} (h0 : 1000000 ≤ t) (h1 : t ≤ 8589934592) : ∃ s, week_Second z t = some (s, 0) ∧ 0 ≤ s ∧ s < 604800 := by
  obtain ⟨k, hk, hk1, hk2⟩ := ex_piece h.2 (t := t) (by omega) (by omega)
  have o0 := h.2.of0 k hk; have o1 := h.2.of1 k hk
  simp only [week_Second, show zone_ToLocal (z.1, (z.2.1, z.2.2)) t = _ from ToLocal_ok h (by omega) h1 hk hk1 hk2, Option.bind_some, bne_self_eq_false, cond_false, week_SecondOf]
  rw [Weekday_nn _ (by omega)]
  simp only [Option.bind_some]
  rw [w64_in (x := ((t + tof z.2.1 l k) / 86400 + 3) % 7 * 86400) (by omega) (by omega), w64_in (by omega) (by omega)]
  exact ⟨_, rfl, by omega, by omega⟩

theorem In_ok {z : ByteArray × (Int × List Rule)} {t s : Int} (hs : week_Second z t = some (s, 0)) {w : WL} (h : WOk 0 w) (hl : w.length ≤ 14) : week_In z w t = some (hasB s w) := by
  simp only [week_In, show week_Second (z.1, (z.2.1, z.2.2)) t = _ from hs, Option.bind_some, beq_self_eq_true, cond_true, Check_ok h hl, Has_ok hl s]

/-! The dice. -/

theorem Windows_lp {L : List Int} : ∀ (n : Nat) (p a : Int) (acc : WL), DOk L a → 0 ≤ p → p ≤ 604800 → acc.length + n ≤ 100 →
    ∃ w a', made_Dice_Windows_l0 p (n : Int) L a acc = some (L, a', acc ++ w) ∧ WOk p w ∧ w.length ≤ n ∧ DOk L a'
  | 0, p, a, acc, hd, _, hp, _ => by
    rw [made_Dice_Windows_l0_eq]
    simp only [made_Dice_Windows_l0_step]
    rw [dec_false (by omega), cond_false, lpK_inr]
    exact ⟨[], a, by simp, hp, by simp, hd⟩
  | n + 1, p, a, acc, hd, hp0, hp, ha => by
    obtain ⟨x, a1, e1, x0, x1, d1⟩ := Next_ok (n := 30) hd (by omega) (by omega)
    obtain ⟨y, a2, e2, y0, y1, d2⟩ := Next_ok (n := 2) d1 (by omega) (by omega)
    obtain ⟨q, a3, e3, m3, d3⟩ := Pick_ok d2 (xs := [(3600 : Int), (28800 : Int), (43200 : Int), (86400 : Int), (61 : Int), (1 : Int)]) (by simp) (by simp)
    have hq : 1 ≤ q ∧ q ≤ 86400 := by simp at m3; omega
    rw [made_Dice_Windows_l0_eq]
    simp only [made_Dice_Windows_l0_step]
    rw [dec_true (by omega)]
    simp only [cond_true, e1, e2, e3, Option.bind_some]
    rw [w64_in (x := 3600 * x) (by omega) (by omega), w64_in (x := p + 3600 * x) (by omega) (by omega), w64_in (x := 60 * y) (by omega) (by omega), w64_in (x := p + 3600 * x + 60 * y) (by omega) (by omega), w64_in (x := p + 3600 * x + 60 * y + q) (by omega) (by omega), w64_in (x := ((n + 1 : Nat) : Int) - 1) (by omega) (by omega)]
    by_cases hbig : p + 3600 * x + 60 * y + q > 604800
    · rw [dec_true hbig, cond_true, lpK_inr]
      exact ⟨[], a3, by simp, hp, by simp, d3⟩
    · rw [dec_false hbig, dec_true (by simp [sizeMax]; omega)]
      simp only [cond_false, cond_true, lpK_inl]
      obtain ⟨w, a4, e4, hw, hwl, d4⟩ := Windows_lp n (p + 3600 * x + 60 * y + q) a3 (acc ++ [(p + 3600 * x + 60 * y, p + 3600 * x + 60 * y + q)]) d3 (by omega) (by omega) (by simp; omega)
      rw [show ((n + 1 : Nat) : Int) - 1 = (n : Int) by omega]
      refine ⟨(p + 3600 * x + 60 * y, p + 3600 * x + 60 * y + q) :: w, a4, by rw [e4, List.append_assoc]; rfl, ⟨by dsimp only; omega, by dsimp only; omega, by dsimp only; omega, hw⟩, by simp; omega, d4⟩

theorem Windows_ok {L : List Int} {a : Int} (h : DOk L a) : ∃ w a', made_Dice_Windows L a = some (w, L, a') ∧ WOk 0 w ∧ w.length ≤ 3 ∧ DOk L a' := by
  obtain ⟨x, a1, e1, x0, x1, d1⟩ := Next_ok (n := 4) h (by omega) (by omega)
  obtain ⟨w, a', e2, h1, h2, h3⟩ := Windows_lp x.toNat 0 a1 [] d1 (by omega) (by omega) (by simp; omega)
  rw [show ((x.toNat : Nat) : Int) = x by omega, List.nil_append] at e2
  simp only [made_Dice_Windows, e1, Option.bind_some, e2]
  exact ⟨w, a', rfl, h1, by omega, h3⟩

theorem Instant_ok {L : List Int} {a : Int} (h : DOk L a) : ∃ t a', made_Dice_Instant L a = some (t, L, a') ∧ 1767139199 ≤ t ∧ t ≤ 1767139200 + 3600 * 575 + 3599 ∧ DOk L a' := by
  obtain ⟨x, a1, e1, x0, x1, d1⟩ := Next_ok (n := 576) h (by omega) (by omega)
  obtain ⟨y, a2, e2, y0, y1, d2⟩ := Next_ok (n := 3) d1 (by omega) (by omega)
  obtain ⟨q, a3, e3, m3, d3⟩ := Pick_ok d2 (xs := [(-1 : Int), (1 : Int), (1800 : Int), (3599 : Int)]) (by simp) (by simp)
  have hq : -1 ≤ q ∧ q ≤ 3599 := by simp at m3; omega
  simp only [made_Dice_Instant, e1, Option.bind_some, made_Dice_Bool, e2, e3]
  rw [w64_in (x := 3600 * x) (by omega) (by omega), w64_in (x := 1767139200 + 3600 * x) (by omega) (by omega), w64_in (x := 1767139200 + 3600 * x + q) (by omega) (by omega)]
  cases (y == w64 (3 - 1)) with
  | true => exact ⟨_, _, rfl, by omega, by omega, d3⟩
  | false => exact ⟨_, _, rfl, by omega, by omega, d2⟩
end Go.Proofs.Pw

/- The staff and the layers that the dice make. -/
open Go Go.Lft
namespace Go.Proofs.Pw

abbrev ZoneT := ByteArray × (Int × List Rule)
abbrev PersonT := ByteArray × (Int × (WL × (Int × (Int × Bool))))
abbrev CalT := ByteArray × (Int × List Int)
abbrev LayerT := ByteArray × (Int × ((Int × Int) × (Int × (Int × (List Int × (WL × (Int × Int)))))))
abbrev SchedT := ByteArray × (List LayerT × List (Int × (Int × (Int × (Int × Int)))))

def ZOk (z : ZoneT) : Prop := MZ z.2.1 z.2.2

theorem Bool_ok {L : List Int} {a n : Int} (h : DOk L a) (hn : 1 ≤ n) (hn2 : n ≤ 1000000) : ∃ b a', made_Dice_Bool L a n = some (b, L, a') ∧ DOk L a' := by
  obtain ⟨x, a1, e1, x0, x1, d1⟩ := Next_ok (n := n) h (by omega) (by omega)
  simp only [made_Dice_Bool, e1, Option.bind_some]
  exact ⟨_, _, rfl, d1⟩

theorem Staff_l0 {L : List Int} : ∀ (n : Nat) (a : Int) (zs : List ZoneT), DOk L a → zs.length + n ≤ 2 → (∀ z ∈ zs, ZOk z) →
    ∃ zs' a', made_Dice_Staff_l0 (n : Int) L a zs = some (L, a', zs') ∧ zs'.length = zs.length + n ∧ (∀ z ∈ zs', ZOk z) ∧ DOk L a'
  | 0, a, zs, hd, _, hz => by
    rw [made_Dice_Staff_l0_eq]
    simp only [made_Dice_Staff_l0_step]
    rw [dec_false (by omega), cond_false, lpK_inr]
    exact ⟨zs, a, rfl, rfl, hz, hd⟩
  | n + 1, a, zs, hd, hl, hz => by
    obtain ⟨o, rs, a1, e1, m1, d1⟩ := Zone_ok hd (List.getD [(ByteArray.mk #[104, 101, 114, 101]), (ByteArray.mk #[116, 104, 101, 114, 101])] zs.length ByteArray.empty)
    obtain ⟨zs', a', e2, h2, h3, h4⟩ := Staff_l0 n a1 (zs ++ [(List.getD [(ByteArray.mk #[104, 101, 114, 101]), (ByteArray.mk #[116, 104, 101, 114, 101])] zs.length ByteArray.empty, (o, rs))]) d1 (by simp; omega) (fun z hz' => by
      rcases List.mem_append.1 hz' with h | h
      · exact hz z h
      · simp at h; subst h; exact m1)
    rw [made_Dice_Staff_l0_eq]
    simp only [made_Dice_Staff_l0_step, show Int.ofNat (List.length zs) = (zs.length : Int) from rfl]
    rw [dec_true (by omega), inR_t (show (0 : Int) ≤ (zs.length : Int) by omega) (by simp; omega)]
    simp only [cond_true, Int.toNat_natCast, e1, Option.bind_some]
    rw [dec_true (by simp [sizeMax]; omega), w64_in (x := ((n + 1 : Nat) : Int) - 1) (by omega) (by omega)]
    simp only [cond_true, lpK_inl]
    rw [show ((n + 1 : Nat) : Int) - 1 = (n : Int) by omega]
    exact ⟨zs', a', e2, by rw [h2]; simp; omega, h3, h4⟩

theorem names_ok : ∃ l, made_names = some l ∧ 4 ≤ l.length := ⟨_, rfl, by simp⟩

theorem Staff_l2 {L : List Int} {zs : List ZoneT} (hz0 : 1 ≤ zs.length) (hz1 : zs.length ≤ 100) : ∀ (n : Nat) (a : Int) (ps : List PersonT), DOk L a → ps.length + n ≤ 4 →
    ∃ ps' a', made_Dice_Staff_l2 (n : Int) L a zs ps = some (L, a', zs, ps') ∧ ps'.length = ps.length + n ∧ DOk L a'
  | 0, a, ps, hd, _ => by
    rw [made_Dice_Staff_l2_eq]
    simp only [made_Dice_Staff_l2_step]
    rw [dec_false (by omega), cond_false, lpK_inr]
    exact ⟨ps, a, rfl, rfl, hd⟩
  | n + 1, a, ps, hd, hl => by
    obtain ⟨nl, en, hnl⟩ := names_ok
    obtain ⟨x, a1, e1, x0, x1, d1⟩ := Next_ok (n := (zs.length : Int)) hd (by omega) (by omega)
    obtain ⟨b, a2, e2, d2⟩ := Bool_ok (n := 3) d1 (by omega) (by omega)
    obtain ⟨c, a3, e3, d3⟩ := Bool_ok (n := 2) d2 (by omega) (by omega)
    rw [made_Dice_Staff_l2_eq]
    simp only [made_Dice_Staff_l2_step, en, Option.bind_some, show Int.ofNat (List.length ps) = (ps.length : Int) from rfl, show Int.ofNat (List.length zs) = (zs.length : Int) from rfl]
    rw [dec_true (by omega), inR_t (show (0 : Int) ≤ (ps.length : Int) by omega) (by omega)]
    simp only [cond_true, e1, e2, e3, Option.bind_some]
    rw [w64_in (x := ((n + 1 : Nat) : Int) - 1) (by omega) (by omega), show ((n + 1 : Nat) : Int) - 1 = (n : Int) by omega]
    cases c with
    | true =>
      obtain ⟨w, a4, e4, _, _, d4⟩ := Windows_ok d3
      obtain ⟨p, a5, e5, _, d5⟩ := Pick_ok d4 (xs := [(0 : Int), (40 : Int), (100 : Int), (12 : Int)]) (by simp) (by simp)
      obtain ⟨q, a6, e6, _, d6⟩ := Pick_ok d5 (xs := [(0 : Int), (11 : Int), (24 : Int), (1 : Int)]) (by simp) (by simp)
      simp only [cond_true, e4, e5, e6, Option.bind_some]
      rw [dec_true (by simp [sizeMax]; omega)]
      simp only [cond_true, lpK_inl]
      obtain ⟨ps', a', e, h1, h2⟩ := Staff_l2 hz0 hz1 n a6 (ps ++ [(List.getD nl (Int.toNat (ps.length : Int)) ByteArray.empty, (x, (w, (w64 (3600 * p), (w64 (3600 * q), b)))))]) d6 (by simp; omega)
      exact ⟨ps', a', e, by rw [h1]; simp; omega, h2⟩
    | false =>
      obtain ⟨p, a5, e5, _, d5⟩ := Pick_ok d3 (xs := [(0 : Int), (40 : Int), (100 : Int), (12 : Int)]) (by simp) (by simp)
      obtain ⟨q, a6, e6, _, d6⟩ := Pick_ok d5 (xs := [(0 : Int), (11 : Int), (24 : Int), (1 : Int)]) (by simp) (by simp)
      simp only [cond_false, e5, e6, Option.bind_some]
      rw [dec_true (by simp [sizeMax]; omega)]
      simp only [cond_true, lpK_inl]
      obtain ⟨ps', a', e, h1, h2⟩ := Staff_l2 hz0 hz1 n a6 (ps ++ [(List.getD nl (Int.toNat (ps.length : Int)) ByteArray.empty, (x, (([] : WL), (w64 (3600 * p), (w64 (3600 * q), b)))))]) d6 (by simp; omega)
      exact ⟨ps', a', e, by rw [h1]; simp; omega, h2⟩

theorem Staff_l6 {L : List Int} {s : Int} {nm : ByteArray} {z : Int} {zs : List ZoneT} {ps : List PersonT} {cs : List CalT} : ∀ (n : Nat) (a day : Int) (ds : List Int), DOk L a → ds.length + n ≤ 4 →
    ∃ ds' a', made_Dice_Staff_l6 s (n : Int) day L a nm z zs ps cs ds = some (s, L, a', nm, z, zs, ps, cs, ds') ∧ DOk L a'
  | 0, a, day, ds, hd, _ => by
    rw [made_Dice_Staff_l6_eq]
    simp only [made_Dice_Staff_l6_step]
    rw [dec_false (by omega), cond_false, lpK_inr]
    exact ⟨ds, a, rfl, hd⟩
  | n + 1, a, day, ds, hd, hl => by
    obtain ⟨x, a1, e1, x0, x1, d1⟩ := Next_ok (n := 6) hd (by omega) (by omega)
    rw [made_Dice_Staff_l6_eq]
    simp only [made_Dice_Staff_l6_step]
    rw [dec_true (by omega), w64_in (x := ((n + 1 : Nat) : Int) - 1) (by omega) (by omega), show ((n + 1 : Nat) : Int) - 1 = (n : Int) by omega]
    simp only [cond_true, e1, Option.bind_some]
    rw [dec_true (by simp [sizeMax]; omega)]
    simp only [cond_true, lpK_inl]
    exact Staff_l6 n a1 _ _ d1 (by simp; omega)

theorem Staff_l4 {L : List Int} {zs : List ZoneT} {ps : List PersonT} (hz0 : 1 ≤ zs.length) (hz1 : zs.length ≤ 100) : ∀ (n : Nat) (a : Int) (cs : List CalT), DOk L a → cs.length + n ≤ 4 →
    ∃ cs' a', made_Dice_Staff_l4 (n : Int) L a zs ps cs = some (L, a', zs, ps, cs') ∧ cs'.length = cs.length + n ∧ DOk L a'
  | 0, a, cs, hd, _ => by
    rw [made_Dice_Staff_l4_eq]
    simp only [made_Dice_Staff_l4_step]
    rw [dec_false (by omega), cond_false, lpK_inr]
    exact ⟨cs, a, rfl, rfl, hd⟩
  | n + 1, a, cs, hd, hl => by
    obtain ⟨x, a1, e1, x0, x1, d1⟩ := Next_ok (n := (zs.length : Int)) hd (by omega) (by omega)
    obtain ⟨y, a2, e2, y0, y1, d2⟩ := Next_ok (n := 4) d1 (by omega) (by omega)
    obtain ⟨ds, a3, e3, d3⟩ := Staff_l6 (s := ((n + 1 : Nat) : Int)) (nm := ByteArray.mk #[100, 97, 121, 115]) (z := x) (zs := zs) (ps := ps) (cs := cs) y.toNat a2 20454 [] d2 (by simp; omega)
    rw [show ((y.toNat : Nat) : Int) = y by omega] at e3
    rw [made_Dice_Staff_l4_eq]
    simp only [made_Dice_Staff_l4_step, show Int.ofNat (List.length zs) = (zs.length : Int) from rfl]
    rw [dec_true (by omega)]
    simp only [cond_true, e1, e2, e3, Option.bind_some]
    rw [dec_true (by simp [sizeMax]; omega), w64_in (x := ((n + 1 : Nat) : Int) - 1) (by omega) (by omega), show ((n + 1 : Nat) : Int) - 1 = (n : Int) by omega]
    simp only [cond_true, lpK_inl]
    obtain ⟨cs', a', e, h1, h2⟩ := Staff_l4 (ps := ps) hz0 hz1 n a3 (cs ++ [(ByteArray.mk #[100, 97, 121, 115], (x, ds))]) d3 (by simp; omega)
    exact ⟨cs', a', e, by rw [h1]; simp; omega, h2⟩

/-- Staff that is right. -/
structure SOk (zs : List ZoneT) (ps : List PersonT) (cs : List CalT) : Prop where
  z0 : 1 ≤ zs.length
  z1 : zs.length ≤ 2
  ok : ∀ z ∈ zs, ZOk z
  p0 : 1 ≤ ps.length
  p1 : ps.length ≤ 4
  c1 : cs.length ≤ 1

theorem Staff_ok {L : List Int} {a : Int} (h : DOk L a) : ∃ zs ps cs a', made_Dice_Staff L a = some ((zs, (ps, (cs, ([] : List SchedT)))), L, a') ∧ SOk zs ps cs ∧ DOk L a' := by
  obtain ⟨x, a1, e1, x0, x1, d1⟩ := Next_ok (n := 2) h (by omega) (by omega)
  obtain ⟨zs, a2, e2, l2, k2, d2⟩ := Staff_l0 (1 + x).toNat a1 [] d1 (by simp; omega) (by simp)
  obtain ⟨y, a3, e3, y0, y1, d3⟩ := Next_ok (n := 4) d2 (by omega) (by omega)
  simp at l2
  obtain ⟨ps, a4, e4, l4, d4⟩ := Staff_l2 (zs := zs) (by omega) (by omega) (1 + y).toNat a3 [] d3 (by simp; omega)
  obtain ⟨q, a5, e5, q0, q1, d5⟩ := Next_ok (n := 2) d4 (by omega) (by omega)
  obtain ⟨cs, a6, e6, l6, d6⟩ := Staff_l4 (zs := zs) (ps := ps) (by omega) (by omega) q.toNat a5 [] d5 (by simp; omega)
  simp at l4 l6
  rw [show (((1 + x).toNat : Nat) : Int) = 1 + x by omega] at e2
  rw [show (((1 + y).toNat : Nat) : Int) = 1 + y by omega] at e4
  rw [show ((q.toNat : Nat) : Int) = q by omega] at e6
  simp only [made_Dice_Staff, e1, Option.bind_some]
  rw [w64_in (x := 1 + x) (by omega) (by omega)]
  simp only [e2, e3, Option.bind_some]
  rw [w64_in (x := 1 + y) (by omega) (by omega)]
  simp only [e4, e5, e6, Option.bind_some]
  exact ⟨zs, ps, cs, a6, rfl, ⟨by omega, by omega, k2, by omega, by omega, by omega⟩, d6⟩

/-- A layer that is right. -/
structure LOk (l : LayerT) : Prop where
  d0 : 20452 ≤ l.2.2.1.1
  d1 : l.2.2.1.1 ≤ 20457
  c0 : 0 ≤ l.2.2.1.2
  c1 : l.2.2.1.2 ≤ 79200
  u0 : 0 ≤ l.2.2.2.1
  u1 : l.2.2.2.1 ≤ 2
  e0 : 1 ≤ l.2.2.2.2.1
  e1 : l.2.2.2.2.1 ≤ 49
  e2 : l.2.2.2.1 ≠ 0 → l.2.2.2.2.1 ≤ 2
  m0 : 1 ≤ l.2.2.2.2.2.1.length
  m1 : l.2.2.2.2.2.1.length ≤ 3

theorem Layer_l0 {L : List Int} {zs : List ZoneT} {ps : List PersonT} {cs : List CalT} {ss : List SchedT} (hp0 : 1 ≤ ps.length) (hp1 : ps.length ≤ 100) {x0 y0 : ByteArray} {x1 x2 x3 x4 x5 x6 x7 y1 y2 y3 y4 y5 y6 y7 : Int} : ∀ (n : Nat) (a : Int) (ms : List Int), DOk L a → ms.length + n ≤ 4 →
    ∃ ms' a', made_Dice_Layer_l0 (n : Int) L a zs ps cs ss x0 x1 x2 x3 x4 x5 x6 x7 y0 y1 y2 y3 y4 y5 y6 y7 ms = some (L, a', zs, ps, cs, ss, x0, x1, x2, x3, x4, x5, x6, x7, y0, y1, y2, y3, y4, y5, y6, y7, ms') ∧ ms'.length = ms.length + n ∧ DOk L a'
  | 0, a, ms, hd, _ => by
    rw [made_Dice_Layer_l0_eq]
    simp only [made_Dice_Layer_l0_step]
    rw [dec_false (by omega), cond_false, lpK_inr]
    exact ⟨ms, a, rfl, rfl, hd⟩
  | n + 1, a, ms, hd, hl => by
    obtain ⟨x, a1, e1, _, _, d1⟩ := Next_ok (n := (ps.length : Int)) hd (by omega) (by omega)
    rw [made_Dice_Layer_l0_eq]
    simp only [made_Dice_Layer_l0_step, show Int.ofNat (List.length ps) = (ps.length : Int) from rfl]
    rw [dec_true (by omega), w64_in (x := ((n + 1 : Nat) : Int) - 1) (by omega) (by omega), show ((n + 1 : Nat) : Int) - 1 = (n : Int) by omega]
    simp only [cond_true, e1, Option.bind_some]
    rw [dec_true (by simp [sizeMax]; omega)]
    simp only [cond_true, lpK_inl]
    obtain ⟨ms', a', e, h1, h2⟩ := Layer_l0 (zs := zs) (cs := cs) (ss := ss) hp0 hp1 (x0 := x0) (x1 := x1) (x2 := x2) (x3 := x3) (x4 := x4) (x5 := x5) (x6 := x6) (x7 := x7) (y0 := y0) (y1 := y1) (y2 := y2) (y3 := y3) (y4 := y4) (y5 := y5) (y6 := y6) (y7 := y7) n a1 (ms ++ [x]) d1 (by simp; omega)
    exact ⟨ms', a', e, by rw [h1]; simp; omega, h2⟩

theorem Layer_ok {L : List Int} {a : Int} (h : DOk L a) {zs : List ZoneT} {ps : List PersonT} {cs : List CalT} {ss : List SchedT} (hs : SOk zs ps cs) (nm : ByteArray) :
    ∃ l a', made_Dice_Layer L a (zs, (ps, (cs, ss))) nm = some (l, L, a') ∧ LOk l ∧ 0 ≤ l.2.1 ∧ l.2.1 < (zs.length : Int) ∧ DOk L a' := by
  have hz0 := hs.z0; have hz1 := hs.z1; have hp0 := hs.p0; have hp1 := hs.p1; have hc1 := hs.c1
  obtain ⟨z, a1, e1, z0, z1, d1⟩ := Next_ok (n := (zs.length : Int)) h (by omega) (by omega)
  obtain ⟨x, a2, e2, x0, x1, d2⟩ := Next_ok (n := 6) d1 (by omega) (by omega)
  obtain ⟨s, a3, e3, m3, d3⟩ := Pick_ok d2 (xs := [(0 : Int), (32400 : Int), (7200 : Int), (9000 : Int), (79200 : Int), (1 : Int)]) (by simp) (by simp)
  obtain ⟨u, a4, e4, u0, u1, d4⟩ := Next_ok (n := 3) d3 (by omega) (by omega)
  obtain ⟨v, a5, e5, v0, v1, d5⟩ := Next_ok (n := 2) d4 (by omega) (by omega)
  have hs' : 0 ≤ s ∧ s ≤ 79200 := by simp at m3; omega
  simp only [made_Dice_Layer, show Int.ofNat (List.length zs) = (zs.length : Int) from rfl, e1, e2, e3, e4, e5, Option.bind_some]
  rw [w64_in (x := 20454 + x) (by omega) (by omega), w64_in (x := 20454 + x - 2) (by omega) (by omega), w64_in (x := 1 + v) (by omega) (by omega)]
  have fin : ∀ (ev a6 : Int), DOk L a6 → 1 ≤ ev → ev ≤ 49 → (u ≠ 0 → ev ≤ 2) → ∀ ms : List Int, 1 ≤ ms.length → ms.length ≤ 3 → ∀ (w : WL) (c m : Int) (a' : Int), DOk L a' → ∃ l a'', some ((nm, (z, ((20454 + x - 2, s), (u, (ev, (ms, (w, (c, m)))))))), L, a') = some (l, L, a'') ∧ LOk l ∧ 0 ≤ l.2.1 ∧ l.2.1 < (zs.length : Int) ∧ DOk L a'' :=
    fun ev a6 _ h1 h2 h3 ms h4 h5 w c m a' hd => ⟨_, _, rfl, ⟨by dsimp only; omega, by dsimp only; omega, hs'.1, hs'.2, u0, by dsimp only; omega, h1, h2, h3, h4, h5⟩, z0, z1, hd⟩
  by_cases hu : u = 0
  · rw [beq_t hu, cond_true]
    obtain ⟨ev, a6, e6, m6, d6⟩ := Pick_ok d5 (xs := [(6 : Int), (8 : Int), (12 : Int), (24 : Int), (23 : Int), (49 : Int)]) (by simp) (by simp)
    have hev : 1 ≤ ev ∧ ev ≤ 49 := by simp at m6; omega
    obtain ⟨n, a7, e7, n0, n1, d7⟩ := Next_ok (n := 3) d6 (by omega) (by omega)
    obtain ⟨ms, a8, e8, l8, d8⟩ := Layer_l0 (L := L) (zs := zs) (ps := ps) (cs := cs) (ss := ss) hp0 (by omega) (x0 := ByteArray.empty) (x1 := 0) (x2 := 0) (x3 := 0) (x4 := 0) (x5 := 0) (x6 := 0) (x7 := 0) (y0 := nm) (y1 := z) (y2 := 20454 + x - 2) (y3 := s) (y4 := u) (y5 := ev) (y6 := 0) (y7 := 0) (1 + n).toNat a7 [] d7 (by simp; omega)
    rw [show (((1 + n).toNat : Nat) : Int) = 1 + n by omega] at e8
    simp at l8
    obtain ⟨b, a9, e9, d9⟩ := Bool_ok (n := 2) d8 (by omega) (by omega)
    simp only [e6, e7, Option.bind_some]
    rw [w64_in (x := 1 + n) (by omega) (by omega)]
    simp only [e8, e9, Option.bind_some, show Int.ofNat (List.length cs) = (cs.length : Int) from rfl]
    cases b with
    | true =>
      obtain ⟨w, a10, e10, _, _, d10⟩ := Windows_ok d9
      obtain ⟨c, a11, e11, d11⟩ := Bool_ok (n := 4) d10 (by omega) (by omega)
      simp only [cond_true, e10, e11, Option.bind_some]
      by_cases hcc : c = true ∧ (cs.length : Int) > 0
      · obtain ⟨i, a12, e12, _, _, d12⟩ := Next_ok (n := (cs.length : Int)) d11 (by omega) (by omega)
        obtain ⟨j, a13, e13, _, _, d13⟩ := Next_ok (n := 2) d12 (by omega) (by omega)
        rw [hcc.1, dec_true hcc.2]
        simp only [cond_true, e12, e13, Option.bind_some]
        exact fin ev a6 d6 hev.1 hev.2 (fun h => absurd hu h) ms (by omega) (by omega) _ _ _ _ d13
      · have hc0 : cond c (decide ((cs.length : Int) > 0)) false = false := by
          cases c with
          | true => exact dec_false (fun h => hcc ⟨rfl, h⟩)
          | false => rfl
        rw [hc0]
        simp only [cond_false]
        exact fin ev a6 d6 hev.1 hev.2 (fun h => absurd hu h) ms (by omega) (by omega) _ _ _ _ d11
    | false =>
      obtain ⟨c, a11, e11, d11⟩ := Bool_ok (n := 4) d9 (by omega) (by omega)
      simp only [cond_false, e11, Option.bind_some]
      by_cases hcc : c = true ∧ (cs.length : Int) > 0
      · obtain ⟨i, a12, e12, _, _, d12⟩ := Next_ok (n := (cs.length : Int)) d11 (by omega) (by omega)
        obtain ⟨j, a13, e13, _, _, d13⟩ := Next_ok (n := 2) d12 (by omega) (by omega)
        rw [hcc.1, dec_true hcc.2]
        simp only [cond_true, e12, e13, Option.bind_some]
        exact fin ev a6 d6 hev.1 hev.2 (fun h => absurd hu h) ms (by omega) (by omega) _ _ _ _ d13
      · have hc0 : cond c (decide ((cs.length : Int) > 0)) false = false := by
          cases c with
          | true => exact dec_false (fun h => hcc ⟨rfl, h⟩)
          | false => rfl
        rw [hc0]
        simp only [cond_false]
        exact fin ev a6 d6 hev.1 hev.2 (fun h => absurd hu h) ms (by omega) (by omega) _ _ _ _ d11
  · rw [beq_f hu, cond_false]
    obtain ⟨n, a7, e7, n0, n1, d7⟩ := Next_ok (n := 3) d5 (by omega) (by omega)
    obtain ⟨ms, a8, e8, l8, d8⟩ := Layer_l0 (L := L) (zs := zs) (ps := ps) (cs := cs) (ss := ss) hp0 (by omega) (x0 := ByteArray.empty) (x1 := 0) (x2 := 0) (x3 := 0) (x4 := 0) (x5 := 0) (x6 := 0) (x7 := 0) (y0 := nm) (y1 := z) (y2 := 20454 + x - 2) (y3 := s) (y4 := u) (y5 := 1 + v) (y6 := 0) (y7 := 0) (1 + n).toNat a7 [] d7 (by simp; omega)
    rw [show (((1 + n).toNat : Nat) : Int) = 1 + n by omega] at e8
    simp at l8
    obtain ⟨b, a9, e9, d9⟩ := Bool_ok (n := 2) d8 (by omega) (by omega)
    simp only [e7, Option.bind_some]
    rw [w64_in (x := 1 + n) (by omega) (by omega)]
    simp only [e8, e9, Option.bind_some, show Int.ofNat (List.length cs) = (cs.length : Int) from rfl]
    cases b with
    | true =>
      obtain ⟨w, a10, e10, _, _, d10⟩ := Windows_ok d9
      obtain ⟨c, a11, e11, d11⟩ := Bool_ok (n := 4) d10 (by omega) (by omega)
      simp only [cond_true, e10, e11, Option.bind_some]
      by_cases hcc : c = true ∧ (cs.length : Int) > 0
      · obtain ⟨i, a12, e12, _, _, d12⟩ := Next_ok (n := (cs.length : Int)) d11 (by omega) (by omega)
        obtain ⟨j, a13, e13, _, _, d13⟩ := Next_ok (n := 2) d12 (by omega) (by omega)
        rw [hcc.1, dec_true hcc.2]
        simp only [cond_true, e12, e13, Option.bind_some]
        exact fin (1 + v) a5 d5 (by omega) (by omega) (by omega) ms (by omega) (by omega) _ _ _ _ d13
      · have hc0 : cond c (decide ((cs.length : Int) > 0)) false = false := by
          cases c with
          | true => exact dec_false (fun h => hcc ⟨rfl, h⟩)
          | false => rfl
        rw [hc0]
        simp only [cond_false]
        exact fin (1 + v) a5 d5 (by omega) (by omega) (by omega) ms (by omega) (by omega) _ _ _ _ d11
    | false =>
      obtain ⟨c, a11, e11, d11⟩ := Bool_ok (n := 4) d9 (by omega) (by omega)
      simp only [cond_false, e11, Option.bind_some]
      by_cases hcc : c = true ∧ (cs.length : Int) > 0
      · obtain ⟨i, a12, e12, _, _, d12⟩ := Next_ok (n := (cs.length : Int)) d11 (by omega) (by omega)
        obtain ⟨j, a13, e13, _, _, d13⟩ := Next_ok (n := 2) d12 (by omega) (by omega)
        rw [hcc.1, dec_true hcc.2]
        simp only [cond_true, e12, e13, Option.bind_some]
        exact fin (1 + v) a5 d5 (by omega) (by omega) (by omega) ms (by omega) (by omega) _ _ _ _ d13
      · have hc0 : cond c (decide ((cs.length : Int) > 0)) false = false := by
          cases c with
          | true => exact dec_false (fun h => hcc ⟨rfl, h⟩)
          | false => rfl
        rw [hc0]
        simp only [cond_false]
        exact fin (1 + v) a5 d5 (by omega) (by omega) (by omega) ms (by omega) (by omega) _ _ _ _ d11
end Go.Proofs.Pw
