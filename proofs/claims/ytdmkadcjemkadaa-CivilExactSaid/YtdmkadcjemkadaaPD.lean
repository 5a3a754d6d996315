/- Chapter 1: the reference's answers are the program's. -/
import Derived.Test.YtdmkadcjemkadaaPC
open Go Go.Lft
namespace Go.Proofs.Pw

theorem r01_Leap_eq (y : Int) : r01_Leap y = some (leapB y) := Leap_eq y

theorem r01_Days_eq (y m : Int) : r01_Days y m = some (dim y m) := by
  by_cases h : m < 1 ∨ 12 < m
  · have hk : ∀ k : Int, 1 ≤ k → k ≤ 12 → (m == k) = false := fun k h1 h2 => beq_f (by omega)
    have : dim y m = 0 := if_pos h
    rw [this]
    simp only [r01_Days, hk 1 (by omega) (by omega), hk 2 (by omega) (by omega), hk 3 (by omega) (by omega), hk 4 (by omega) (by omega), hk 5 (by omega) (by omega), hk 6 (by omega) (by omega), hk 7 (by omega) (by omega),
      hk 8 (by omega) (by omega), hk 9 (by omega) (by omega), hk 10 (by omega) (by omega), hk 11 (by omega) (by omega), hk 12 (by omega) (by omega), cond_false]
  · obtain rfl | rfl | rfl | rfl | rfl | rfl | rfl | rfl | rfl | rfl | rfl | rfl : m = 1 ∨ m = 2 ∨ m = 3 ∨ m = 4 ∨ m = 5 ∨ m = 6 ∨ m = 7 ∨ m = 8 ∨ m = 9 ∨ m = 10 ∨ m = 11 ∨ m = 12 := by omega
    case inr.inl =>
      have e : r01_Days y 2 = (r01_Leap y).bind fun r => cond r (some (29 : Int)) (some (28 : Int)) := rfl
      rw [e, r01_Leap_eq, dim, leapI_eq]
      simp only [Option.bind_some]
      cases leapB y <;> rfl
    all_goals rfl

theorem r01_Valid_eq (y m d : Int) : r01_Valid (y, m, d) = some (decide (valid y m d)) := by
  simp only [r01_Valid, r01_Days_eq, Option.bind_some]
  by_cases hv : valid y m d
  · have hm := valid_month hv
    have hv' := hv
    obtain ⟨a1, a2, a3, a4⟩ := hv
    rw [dec_true (show y ≥ 1970 from a1), dec_true a2, dec_true (show m ≥ 1 from hm.1), dec_true hm.2, dec_true (show d ≥ 1 from a3), dec_true a4, dec_true hv']; rfl
  · rw [dec_false hv]
    by_cases a1 : y ≥ 1970
    · by_cases a2 : y ≤ 2240
      · by_cases a3 : m ≥ 1
        · by_cases a4 : m ≤ 12
          · by_cases a5 : d ≥ 1
            · rw [dec_true a1, dec_true a2, dec_true a3, dec_true a4, dec_true a5, dec_false (show ¬ d ≤ dim y m from fun h => hv ⟨a1, a2, a5, h⟩)]; rfl
            · rw [dec_true a1, dec_true a2, dec_true a3, dec_true a4, dec_false a5]; rfl
          · rw [dec_true a1, dec_true a2, dec_true a3, dec_false a4]; rfl
        · rw [dec_true a1, dec_true a2, dec_false a3]; rfl
      · rw [dec_true a1, dec_false a2]; rfl
    · rw [dec_false a1]; rfl

theorem Valid_eq' (y m d : Int) : civil_Valid (y, m, d) = some (decide (valid y m d)) := Valid_eq y m d

theorem r01_year_eq (y : Int) (h1 : 1969 ≤ y) (h2 : y ≤ 1000000000) : r01_year y = some (cnt y) := by
  simp only [r01_year]
  rw [w64_in (x := y - 1970) (by omega) (by omega), w64_in (x := y - 1969) (by omega) (by omega), w64_in (x := y - 1901) (by omega) (by omega), w64_in (x := y - 1601) (by omega) (by omega)]
  rw [tdiv_nn (show 0 ≤ y - 1969 by omega), tdiv_nn (show 0 ≤ y - 1901 by omega), tdiv_nn (show 0 ≤ y - 1601 by omega)]
  simp (disch := omega) only [w64_in]
  congr 1
  unfold cnt
  omega

theorem r01_Day_lp (y m d : Int) (hm : m ≤ 13) : ∀ (n : Nat) (s k : Int), 1 ≤ k → k + n = m → -1000000000000 ≤ s → s + 31 * n ≤ 1000000000000 → r01_Day_l0 s k y m d = some (s + cum y m - cum y k, y, m, d)
  | 0, s, k, hk, hn, _, _ => by
    rw [r01_Day_l0_eq]
    have : k = m := by omega
    subst this
    simp only [r01_Day_l0_step, dec_false (show ¬ k < k by omega), cond_false, lpK_inr]
    congr 2; omega
  | n + 1, s, k, hk, hn, h1, h2 => by
    rw [r01_Day_l0_eq]
    have hd := dim_range y k
    have hc := cum_succ y k hk (by omega)
    simp only [r01_Day_l0_step, r01_Days_eq, Option.bind_some, dec_true (show k < m by omega), cond_true, lpK_inl]
    rw [w64_in (x := s + dim y k) (by omega) (by omega), w64_in (x := k + 1) (by omega) (by omega)]
    rw [r01_Day_lp y m d hm n (s + dim y k) (k + 1) (by omega) (by omega) (by omega) (by omega)]
    congr 2; omega

theorem r01_Day_eq (y m d : Int) : r01_Day (y, m, d) = civil_Day (y, m, d) := by
  by_cases hv : valid y m d
  · have hm := valid_month hv
    have hd := dim_range y m
    have hb : -1000000000 ≤ cnt y ∧ cnt y ≤ 1000000000 := by have := hv.1; have := hv.2.1; unfold cnt; omega
    have hc := cum_range y m
    obtain ⟨h1, h2, h3, h4⟩ := id hv
    rw [Day_ok hv]
    simp only [r01_Day, r01_Valid_eq, dec_true hv, Option.bind_some, Bool.not_true, cond_false, r01_year_eq y (by omega) (by omega), r01_Day_lp y m d (by omega) (m - 1).toNat (cnt y) 1 (by omega) (by omega) (by omega) (by omega)]
    have : cum y 1 = 0 := rfl
    rw [w64_in (x := cnt y + cum y m - cum y 1 + d) (by omega) (by omega), w64_in (by omega) (by omega)]
    unfold num
    congr 2; omega
  · rw [Day_no hv]
    simp only [r01_Day, r01_Valid_eq, dec_false hv, Option.bind_some, Bool.not_false, cond_true]

theorem Day_some (y m d : Int) : ∃ r, civil_Day (y, m, d) = some r := by
  by_cases hv : valid y m d
  · exact ⟨_, Day_ok hv⟩
  · exact ⟨_, Day_no hv⟩

theorem r01_Weekday_eq (d : Int) : r01_Weekday d = civil_Weekday d := rfl

theorem r01_AddMonths_eq (y m d n : Int) : r01_AddMonths (y, m, d) n = civil_AddMonths (y, m, d) n := by
  by_cases hv : valid y m d
  · have hm := valid_month hv
    obtain ⟨v1, v2, v3, v4⟩ := id hv
    simp only [r01_AddMonths, r01_Valid_eq, dec_true hv, Option.bind_some, Bool.not_true, cond_false]
    by_cases hn : n < -4800 ∨ n > 4800
    · have hb : cond (decide (n < -4800)) true (decide (n > 4800)) = true := by
        rcases hn with hn | hn
        · simp [hn]
        · rw [dec_true hn]; cases decide (n < -4800) <;> rfl
      rw [hb, AddMonths_no (fun h => by omega)]; rfl
    · rw [dec_false (show ¬ n < -4800 by omega), dec_false (show ¬ n > 4800 by omega)]
      simp only [cond_false]
      rw [w64_in (x := y * 12) (by omega) (by omega), w64_in (x := y * 12 + m) (by omega) (by omega), w64_in (x := y * 12 + m - 1) (by omega) (by omega), w64_in (x := y * 12 + m - 1 + n) (by omega) (by omega)]
      have hr := AddMonths_ok (y := y) (m := m) (d := d) (n := n) hv (by omega) (by omega)
      have hno := AddMonths_no (y := y) (m := m) (d := d) (n := n)
      rw [show 12 * y + m - 1 + n = y * 12 + m - 1 + n by omega] at hr hno
      generalize hM : y * 12 + m - 1 + n = M at *
      obtain ⟨e, p1, p2, p3, p4⟩ := tdm M 12 (by omega)
      rw [w64_in (x := Int.tdiv M 12) (by omega) (by omega), w64_in (x := Int.tmod M 12 + 1) (by omega) (by omega)]
      simp only [r01_Days_eq, Option.bind_some]
      by_cases hM0 : M < 0
      · rw [dec_true hM0, cond_true, hno (fun h => by omega)]
      · rw [dec_false hM0, cond_false, tdiv_nn (by omega), tmod_nn (by omega)]
        have hd := dim_pos (M / 12) (M % 12 + 1) (by omega) (by omega)
        have hmin : (if dim (M / 12) (M % 12 + 1) < d then dim (M / 12) (M % 12 + 1) else d) = min d (dim (M / 12) (M % 12 + 1)) := by
          split <;> omega
        rw [hmin]
        by_cases hy : 1970 ≤ M / 12 ∧ M / 12 ≤ 2240
        · rw [dec_true ⟨hy.1, hy.2, by omega, by omega⟩]
          have := hr hy.1 hy.2
          dsimp only at this
          rw [this]; rfl
        · rw [dec_false (fun h => hy ⟨h.1, h.2.1⟩), hno (fun h => hy h.2)]; rfl
  · rw [AddMonths_no (fun h => hv h.1)]
    simp only [r01_AddMonths, r01_Valid_eq, dec_false hv, Option.bind_some, Bool.not_false, cond_true]

theorem AddMonths_some (y m d n : Int) : ∃ r, civil_AddMonths (y, m, d) n = some r := by
  by_cases h : valid y m d ∧ 1970 ≤ (12 * y + m - 1 + n) / 12 ∧ (12 * y + m - 1 + n) / 12 ≤ 2240
  · have hm := valid_month h.1
    have := h.1.1; have := h.1.2.1
    exact ⟨_, AddMonths_ok h.1 (by omega) (by omega) h.2.1 h.2.2⟩
  · exact ⟨_, AddMonths_no h⟩

theorem Week_some (y m d : Int) : ∃ r, civil_Week (y, m, d) = some r ∧ r01_Week (y, m, d) = some r := by
  by_cases hv : valid y m d
  · have hm := valid_month hv
    have hr := num_range hv
    obtain ⟨i1, i2, i3, i4, i5⟩ := num_in hv
    obtain ⟨v1, v2, v3, v4⟩ := id hv
    generalize hn : num y m d = n at *
    have hs0 := cnt_succ (y - 1)
    have hs1 := cnt_succ y
    have hs2 := cnt_succ (y + 1)
    have l0 := leapI_01 (y - 1)
    have l1 := leapI_01 y
    have l2 := leapI_01 (y + 1)
    rw [show y - 1 + 1 = y by omega] at hs0
    have c0 := cnt_mono (a := 1970) (b := y) v1
    have c1 := cnt_mono (a := y) (b := 2240) v2
    have e0 := cnt1970
    have e1 : cnt 2240 = 98615 := by decide
    have key : ∀ yy, cnt yy ≤ n - (n + 3) % 7 + 3 → n - (n + 3) % 7 + 3 < cnt (yy + 1) → civil_Week (y, m, d) = some (yy, (n - (n + 3) % 7 + 3 - cnt yy) / 7 + 1, 0) := by
      intro yy h1 h2
      have := Week_ok (yy := yy) hv (by rw [hn]; exact h1) (by rw [hn]; exact h2)
      rw [hn] at this; exact this
    have fin : ∀ c : Int, -1000 ≤ c → c ≤ n - (n + 3) % 7 + 3 → w64 (w64 (Int.tdiv (w64 (n - (n + 3) % 7 + 3 - c)) 7) + 1) = (n - (n + 3) % 7 + 3 - c) / 7 + 1 := by
      intro c hc0 hc1
      rw [w64_in (x := n - (n + 3) % 7 + 3 - c) (by omega) (by omega), tdiv_nn (by omega), w64_in (x := (n - (n + 3) % 7 + 3 - c) / 7) (by omega) (by omega), w64_in (by omega) (by omega)]
    simp only [r01_Week, r01_Day_eq, Day_ok hv, hn, Option.bind_some, bne_self_eq_false, cond_false, r01_Weekday_eq, Weekday_nn n (by omega), r01_year_eq y (by omega) (by omega)]
    rw [w64_in (x := n - (n + 3) % 7) (by omega) (by omega), w64_in (x := n - (n + 3) % 7 + 3) (by omega) (by omega), w64_in (x := y - 1) (by omega) (by omega), w64_in (x := y + 1) (by omega) (by omega),
      w64_in (x := cnt y + 365) (by omega) (by omega)]
    simp only [r01_year_eq (y - 1) (by omega) (by omega), r01_year_eq (y + 1) (by omega) (by omega), Option.bind_some]
    rw [dec_false (show ¬ y < 1970 by omega), dec_false (show ¬ y + 1 < 1970 by omega)]
    by_cases a1 : n - (n + 3) % 7 + 3 < cnt y
    · rw [dec_true a1, cond_true, key (y - 1) (by omega) (by rw [show y - 1 + 1 = y by omega]; exact a1)]
      by_cases a2 : y - 1 < 1970
      · have hy : y = 1970 := by omega
        subst hy
        rw [dec_true a2, cond_true, fin (-365) (by omega) (by omega)]
        exact ⟨_, rfl, rfl⟩
      · have c2 := cnt_mono (a := 1970) (b := y - 1) (by omega)
        rw [dec_false a2, cond_false, fin (cnt (y - 1)) (by omega) (by omega)]
        exact ⟨_, rfl, rfl⟩
    · rw [dec_false a1, cond_false]
      by_cases a3 : n - (n + 3) % 7 + 3 < cnt (y + 1)
      · rw [key y (by omega) a3]
        by_cases a4 : n - (n + 3) % 7 + 3 ≥ cnt y + 365
        · rw [dec_true a4, cond_true, dec_false (show ¬ n - (n + 3) % 7 + 3 ≥ cnt (y + 1) by omega)]
          simp only [cond_false]
          rw [fin (cnt y) (by omega) (by omega)]
          exact ⟨_, rfl, rfl⟩
        · rw [dec_false a4]
          simp only [cond_false]
          rw [fin (cnt y) (by omega) (by omega)]
          exact ⟨_, rfl, rfl⟩
      · rw [key (y + 1) (by omega) (by omega), dec_true (show n - (n + 3) % 7 + 3 ≥ cnt y + 365 by omega), cond_true, dec_true (show n - (n + 3) % 7 + 3 ≥ cnt (y + 1) by omega)]
        simp only [cond_true, cond_false]
        rw [fin (cnt (y + 1)) (by omega) (by omega)]
        exact ⟨_, rfl, rfl⟩
  · rw [Week_no hv]
    simp only [r01_Week, r01_Day_eq, Day_no hv, Option.bind_some]
    exact ⟨_, rfl, rfl⟩

theorem r01_Nth_lpa (y m k w n e : Int) (hn0 : 0 ≤ n) (hn1 : n ≤ 1000000) (he6 : e ≤ 6) (hew : (n + e + 3) % 7 = w) :
    ∀ (j : Nat) (s : Int), 0 ≤ s → s + j = e → r01_Nth_l0 y m k w n (n + s) = some (y, m, k, n, n + e)
  | 0, s, hs, hj => by
    rw [r01_Nth_l0_eq]
    have : s = e := by omega
    subst this
    have hb : ((n + s + 3) % 7 != w) = false := by simp [hew]
    simp only [r01_Nth_l0_step, r01_Weekday_eq, Weekday_nn (n + s) (by omega), Option.bind_some, hb, cond_false, lpK_inr]
  | j + 1, s, hs, hj => by
    rw [r01_Nth_l0_eq]
    have hb : ((n + s + 3) % 7 != w) = true := by
      simp only [bne_iff_ne, ne_eq]; omega
    simp only [r01_Nth_l0_step, r01_Weekday_eq, Weekday_nn (n + s) (by omega), Option.bind_some, hb, cond_true, lpK_inl]
    rw [w64_in (x := n + s + 1) (by omega) (by omega), show n + s + 1 = n + (s + 1) by omega]
    exact r01_Nth_lpa y m k w n e hn0 hn1 he6 hew j (s + 1) (by omega) (by omega)

theorem r01_Nth_lpb (y m n t : Int) (hn0 : 0 ≤ n) (hn1 : n ≤ 1000000) (ht1 : t < n + dim y m) (ht2 : n + dim y m ≤ t + 7) (ht0 : -1000 ≤ t) :
    ∀ (j : Nat) (s : Int), s + 7 * j = t → -1000 ≤ s → r01_Nth_l2 y m n s = some t
  | 0, s, hs, _ => by
    have hd := dim_range y m
    rw [r01_Nth_l2_eq]
    have : s = t := by omega
    subst this
    simp only [r01_Nth_l2_step, r01_Days_eq, Option.bind_some]
    rw [w64_in (x := s + 7) (by omega) (by omega), w64_in (x := n + dim y m) (by omega) (by omega), dec_false (show ¬ s + 7 < n + dim y m by omega), cond_false, lpK_inr]
  | j + 1, s, hs, h1 => by
    have hd := dim_range y m
    rw [r01_Nth_l2_eq]
    simp only [r01_Nth_l2_step, r01_Days_eq, Option.bind_some]
    rw [w64_in (x := s + 7) (by omega) (by omega), w64_in (x := n + dim y m) (by omega) (by omega), dec_true (show s + 7 < n + dim y m by omega), cond_true, lpK_inl]
    exact r01_Nth_lpb y m n t hn0 hn1 ht1 ht2 ht0 j (s + 7) (by omega) (by omega)

theorem Nth_some (y m k w : Int) : ∃ r, civil_Nth y m k w = some r ∧ r01_Nth y m k w = some r := by
  by_cases h : 1970 ≤ y ∧ y ≤ 2240 ∧ 1 ≤ m ∧ m ≤ 12 ∧ 1 ≤ k ∧ k ≤ 5 ∧ 0 ≤ w ∧ w ≤ 6
  · obtain ⟨h1, h2, hm1, hm2, hk1, hk2, hw1, hw2⟩ := h
    have hv := dim_valid1 y m h1 h2 hm1 hm2
    have hr := num_range hv
    have hd := dim_pos y m hm1 hm2
    have hd2 := dim_range y m
    refine ⟨_, Nth_ok y m k w h1 h2 hm1 hm2 hk1 hk2 hw1 hw2, ?_⟩
    simp only [r01_Nth, r01_Day_eq, Day_ok hv, Option.bind_some, bne_self_eq_false]
    rw [dec_false (show ¬ k < 1 by omega), dec_false (show ¬ k > 5 by omega), dec_false (show ¬ w < 0 by omega), dec_false (show ¬ w > 6 by omega)]
    simp only [cond_false]
    unfold nth
    generalize num y m 1 = n at *
    obtain ⟨e, he0, he6, hew, hee⟩ : ∃ e, 0 ≤ e ∧ e ≤ 6 ∧ (n + e + 3) % 7 = w ∧ n + (w - (n + 3) % 7 + 7) % 7 = n + e := ⟨(w - (n + 3) % 7 + 7) % 7, by omega, by omega, by omega, rfl⟩
    rw [hee]
    have hl := r01_Nth_lpa y m k w n e hr.1 (by omega) he6 hew e.toNat 0 (by omega) (by omega)
    rw [Int.add_zero] at hl
    simp only [hl, Option.bind_some]
    by_cases hk : k < 5
    · rw [dec_true hk, cond_true, w64_in (x := k - 1) (by omega) (by omega), w64_in (x := 7 * (k - 1)) (by omega) (by omega), w64_in (by omega) (by omega), if_neg (by omega)]
    · have hk5 : k = 5 := by omega
      subst hk5
      rw [dec_false hk, cond_false]
      by_cases hc : n + e + 7 * (5 - 1) ≥ n + dim y m
      · rw [r01_Nth_lpb y m n (n + e + 21) hr.1 (by omega) (by omega) (by omega) (by omega) 3 (n + e) (by omega) (by omega), if_pos hc]
        simp only [Option.bind_some]
        congr 2; omega
      · rw [r01_Nth_lpb y m n (n + e + 28) hr.1 (by omega) (by omega) (by omega) (by omega) 4 (n + e) (by omega) (by omega), if_neg hc]
        simp only [Option.bind_some]
        congr 2
  · refine ⟨_, Nth_no y m k w h, ?_⟩
    by_cases hv : valid y m 1
    · have hm := valid_month hv
      have := hv.1; have := hv.2.1
      have hb : (cond (cond (cond (decide (k < (1 : Int))) true (decide (k > (5 : Int)))) true (decide (w < (0 : Int)))) true (decide (w > (6 : Int)))) = true := by
        by_cases a1 : k < 1 <;> by_cases a2 : k > 5 <;> by_cases a3 : w < 0 <;> by_cases a4 : w > 6 <;> simp [a1, a2, a3, a4] <;> omega
      simp only [r01_Nth, r01_Day_eq, Day_ok hv, Option.bind_some, bne_self_eq_false, cond_false, hb, cond_true]
    · simp only [r01_Nth, r01_Day_eq, Day_no hv, Option.bind_some]
      rfl

theorem r01_DateOf_lpa (day y x1 x2 x3 : Int) (hy2 : y ≤ 2240) (h1 : cnt y ≤ day) (h2 : day < cnt (y + 1)) :
    ∀ (j : Nat) (s : Int), 1970 ≤ s → s + j = y → r01_DateOf_l0 (day - cnt s) s x1 x2 x3 = some (day - cnt y, y, x1, x2, x3)
  | 0, s, hs, hj => by
    rw [r01_DateOf_l0_eq]
    have : s = y := by omega
    subst this
    have hs1 := cnt_succ s
    have hl := leapI_01 s
    have := cnt_mono (a := 1970) (b := s) (by omega)
    have := cnt_mono (a := s) (b := 2240) (by omega)
    have e0 := cnt1970
    have e1 : cnt 2240 = 98615 := by decide
    simp only [r01_DateOf_l0_step, w64_in (x := s + 1) (by omega) (by omega), r01_year_eq s (by omega) (by omega), r01_year_eq (s + 1) (by omega) (by omega), Option.bind_some]
    rw [w64_in (x := cnt (s + 1) - cnt s) (by omega) (by omega), dec_false (show ¬ day - cnt s ≥ cnt (s + 1) - cnt s by omega), cond_false, lpK_inr]
  | j + 1, s, hs, hj => by
    rw [r01_DateOf_l0_eq]
    have hs1 := cnt_succ s
    have hl := leapI_01 s
    have := cnt_mono (a := s + 1) (b := y) (by omega)
    have := cnt_mono (a := 1970) (b := s) (by omega)
    have := cnt_mono (a := y) (b := 2240) (by omega)
    have hsy := cnt_succ y
    have hly := leapI_01 y
    have e0 := cnt1970
    have e1 : cnt 2240 = 98615 := by decide
    simp only [r01_DateOf_l0_step, w64_in (x := s + 1) (by omega) (by omega), r01_year_eq s (by omega) (by omega), r01_year_eq (s + 1) (by omega) (by omega), Option.bind_some]
    rw [w64_in (x := cnt (s + 1) - cnt s) (by omega) (by omega), dec_true (show day - cnt s ≥ cnt (s + 1) - cnt s by omega), cond_true, lpK_inl, w64_in (x := day - cnt s - (cnt (s + 1) - cnt s)) (by omega) (by omega),
      show day - cnt s - (cnt (s + 1) - cnt s) = day - cnt (s + 1) by omega]
    exact r01_DateOf_lpa day y x1 x2 x3 hy2 h1 h2 j (s + 1) (by omega) (by omega)

theorem r01_DateOf_lpb (y m r x1 x2 x3 : Int) (hm2 : m ≤ 12) (hr0 : 0 ≤ r) (hr : r < dim y m) : ∀ (n : Nat) (k : Int), 1 ≤ k → k + n = m →
    r01_DateOf_l2 (r + cum y m - cum y k) y k x1 x2 x3 = some (r, y, m, x1, x2, x3)
  | 0, k, hk, hn => by
    have : k = m := by omega
    subst this
    rw [r01_DateOf_l2_eq]
    simp only [r01_DateOf_l2_step, r01_Days_eq, Option.bind_some]
    rw [dec_false (show ¬ (r + cum y k - cum y k ≥ dim y k) by omega)]
    simp only [cond_false, lpK_inr]
    rw [show r + cum y k - cum y k = r by omega]
  | n + 1, k, hk, hn => by
    rw [r01_DateOf_l2_eq]
    have hs := cum_succ y k hk (by omega)
    have hmono : cum y (k + 1) ≤ cum y m := by
      have : ∀ (j : Nat), k + 1 + j ≤ 12 → cum y (k + 1) ≤ cum y (k + 1 + j) := by
        intro j
        induction j with
        | zero => intro _; simp
        | succ j ih =>
          intro hj
          have h1 := ih (by omega)
          have h2 := cum_succ y (k + 1 + j) (by omega) (by omega)
          have h3 := dim_range y (k + 1 + j)
          rw [show k + 1 + ((j + 1 : Nat) : Int) = k + 1 + j + 1 by omega]
          omega
      have := this n (by omega)
      rwa [show k + 1 + (n : Int) = m by omega] at this
    have c1 := cum_range y k
    have c2 := cum_range y m
    have c3 := dim_range y k
    have c4 := dim_range y m
    simp only [r01_DateOf_l2_step, r01_Days_eq, Option.bind_some]
    rw [dec_true (show r + cum y m - cum y k ≥ dim y k by omega)]
    simp only [cond_true, lpK_inl]
    rw [w64_in (x := r + cum y m - cum y k - dim y k) (by omega) (by omega), w64_in (x := k + 1) (by omega) (by omega), show r + cum y m - cum y k - dim y k = r + cum y m - cum y (k + 1) by omega]
    exact r01_DateOf_lpb y m r x1 x2 x3 hm2 hr0 hr n (k + 1) (by omega) (by omega)

theorem DateOf_some (day : Int) : ∃ r, civil_DateOf day = some r ∧ r01_DateOf day = some r := by
  have hmax : r01_MaxDay = some 98980 := by
    simp only [r01_MaxDay, r01_year_eq 2241 (by omega) (by omega), Option.bind_some, cnt2241]
    rw [w64_in (by omega) (by omega)]; rfl
  by_cases h : day < 0 ∨ 98981 ≤ day
  · refine ⟨_, DateOf_no day h, ?_⟩
    simp only [r01_DateOf, hmax, Option.bind_some]
    rcases h with h | h
    · rw [dec_true h]; rfl
    · rw [dec_false (show ¬ day < 0 by omega), cond_false, dec_true (show day > 98980 by omega)]; rfl
  · obtain ⟨y, m, d, hv, hnum, hc1, hc2, hm1, hm2⟩ := ex_date day (by omega) (by omega)
    obtain ⟨i1, i2, i3, i4, i5⟩ := num_in hv
    rw [hnum] at i1 i2 i3 i4 i5
    have hD := DateOf_ok hv
    rw [hnum] at hD
    refine ⟨_, hD, ?_⟩
    simp only [r01_DateOf, hmax, Option.bind_some]
    rw [dec_false (show ¬ day < 0 by omega), cond_false, dec_false (show ¬ day > 98980 by omega), cond_false]
    have l0 := r01_DateOf_lpa day y 0 0 0 hv.2.1 hc1 hc2 (y - 1970).toNat 1970 (by omega) (by have := hv.1; omega)
    rw [cnt1970, Int.sub_zero] at l0
    have l2 := r01_DateOf_lpb y m (day - cnt y - cum y m) 0 0 0 hm2 (by omega) (by omega) (m - 1).toNat 1 (by omega) (by omega)
    rw [show day - cnt y - cum y m + cum y m - cum y 1 = day - cnt y by (have : cum y 1 = 0 := rfl); omega] at l2
    simp only [l0, Option.bind_some, l2]
    have hd := hv.2.2
    have hdr := dim_range y m
    rw [i5, w64_in (by omega) (by omega)]

theorem exact_l0_step (s2 s3 i b1 b2 b3 y m d : Int) (l : List (Int × (Int × Int))) (hi0 : 0 ≤ i) (hi2 : i < 2) (hl : List.getD l (Int.toNat i) (0, 0, 0) = (y, m, d)) :
    law01_CivilExact_l0_step s2 s3 l i b1 b2 b3 = some (.inl (s2, s3, l, i + 1, b1, b2, b3)) := by
  obtain ⟨a1, h1⟩ := Day_some y m d
  obtain ⟨a2, h2⟩ := AddMonths_some y m d (Int.tmod s3 4000)
  obtain ⟨a3, h3, h3'⟩ := Week_some y m d
  have hm9 : 0 ≤ s2 % 9 ∧ s2 % 9 < 9 := by omega
  obtain ⟨a4, h4, h4'⟩ := Nth_some y m (s3 % 7) (s2 % 9 - 1)
  simp only [law01_CivilExact_l0_step, dec_true hi2, cond_true, inR_t (n := 2) hi0 (by omega), hl, r01_Day_eq, h1, r01_AddMonths_eq, h2, h3, h3', Option.bind_some, bne_self_eq_false, cond_false, beq_self_eq_true, Bool.and_self, Bool.not_true,
    Valid_eq', r01_Valid_eq, Leap_eq, r01_Leap_eq, Days_eq, r01_Days_eq, Mod_eq s3 7 (by omega) (by omega), Mod_eq s2 9 (by omega) (by omega), w64_in (x := s2 % 9 - 1) (by omega) (by omega), h4, h4', w64_in (x := i + 1) (by omega) (by omega)]

theorem exact_l2_step (s3 i b1 b2 b3 : Int) (l : List Int) (hi0 : 0 ≤ i) (hi3 : i < 3) : law01_CivilExact_l2_step s3 l i b1 b2 b3 = some (.inl (s3, l, i + 1, b1, b2, b3)) := by
  obtain ⟨a1, h1, h1'⟩ := DateOf_some (List.getD l (Int.toNat i) 0)
  simp only [law01_CivilExact_l2_step, dec_true hi3, cond_true, inR_t (n := 3) hi0 (by omega), h1, h1', Option.bind_some, bne_self_eq_false, cond_false, beq_self_eq_true, Bool.and_self, Bool.not_true, r01_Weekday_eq, Weekday_eq, w64_in (x := i + 1) (by omega) (by omega)]

theorem CivilExact_true (a0 : Int) (_w0 : (Lit.int .i64 a0).wf = true) (a1 : Int) (_w1 : (Lit.int .i64 a1).wf = true) (a2 : Int) (_w2 : (Lit.int .i64 a2).wf = true) (a3 : Int) (_w3 : (Lit.int .i64 a3).wf = true) :
    law01_CivilExact a0 a1 a2 a3 = some true := by
  have g0 : 0 ≤ a0 % 275 ∧ a0 % 275 < 275 := by omega
  have g3 : 0 ≤ a3 % 99500 ∧ a3 % 99500 < 99500 := by omega
  simp only [law01_CivilExact, Mod_eq a0 275 (by omega) (by omega), Mod_eq a1 14 (by omega) (by omega), Mod_eq a2 33 (by omega) (by omega), Option.bind_some, w64_in (x := 1968 + a0 % 275) (by omega) (by omega)]
  have l0 : law01_CivilExact_l0 a2 a3 [(a0, a1, a2), (1968 + a0 % 275, a1 % 14, a2 % 33)] 0 (1968 + a0 % 275) (a1 % 14) (a2 % 33) = some (.inr (a2, a3, 1968 + a0 % 275, a1 % 14, a2 % 33)) := by
    rw [law01_CivilExact_l0_eq, exact_l0_step a2 a3 0 _ _ _ a0 a1 a2 _ (by omega) (by omega) rfl, lpK_inl, law01_CivilExact_l0_eq, exact_l0_step a2 a3 (0 + 1) _ _ _ (1968 + a0 % 275) (a1 % 14) (a2 % 33) _ (by omega) (by omega) rfl, lpK_inl,
      law01_CivilExact_l0_eq]
    rfl
  have l2 : ∀ l, law01_CivilExact_l2 a3 l 0 (1968 + a0 % 275) (a1 % 14) (a2 % 33) = some (.inr (a3, 1968 + a0 % 275, a1 % 14, a2 % 33)) := by
    intro l
    rw [law01_CivilExact_l2_eq, exact_l2_step _ 0 _ _ _ _ (by omega) (by omega), lpK_inl, law01_CivilExact_l2_eq, exact_l2_step _ (0 + 1) _ _ _ _ (by omega) (by omega), lpK_inl, law01_CivilExact_l2_eq, exact_l2_step _ (0 + 1 + 1) _ _ _ _ (by omega) (by omega), lpK_inl,
      law01_CivilExact_l2_eq]
    rfl
  obtain ⟨r, hr⟩ := AddMonths_some (1968 + a0 % 275) (a1 % 14) (a2 % 33) a3
  simp only [l0, Option.bind_some, sumC_inr, Mod_eq a3 99500 (by omega) (by omega), Mod_eq a3 3 (by omega) (by omega), l2, r01_AddMonths_eq, hr, beq_self_eq_true, Bool.and_self, cond_true, sane01]
end Go.Proofs.Pw
