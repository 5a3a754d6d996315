/- The law CivilBack, on plain functions. -/
import Derived.Test.YtdmkadcjemkadaaPA
open Go Go.Lft
namespace Go.Proofs.Pw

theorem next_date {y m d : Int} (h : valid y m d) (hn : num y m d + 1 < 98981) :
    (d < dim y m ∧ valid y m (d + 1) ∧ num y m (d + 1) = num y m d + 1) ∨ (d = dim y m ∧ m < 12 ∧ valid y (m + 1) 1 ∧ num y (m + 1) 1 = num y m d + 1) ∨
      (d = dim y m ∧ m = 12 ∧ valid (y + 1) 1 1 ∧ num (y + 1) 1 1 = num y m d + 1) := by
  have hm := valid_month h
  obtain ⟨h1, h2, h3, h4⟩ := h
  by_cases hd : d < dim y m
  · exact .inl ⟨hd, ⟨h1, h2, by omega, by omega⟩, by unfold num; omega⟩
  · have hs := cum_succ y m hm.1 hm.2
    by_cases hm12 : m < 12
    · refine .inr (.inl ⟨by omega, hm12, dim_valid1 y (m + 1) h1 h2 (by omega) (by omega), ?_⟩)
      unfold num; omega
    · have : m = 12 := by omega
      subst this
      have hc := cnt_succ y
      have h13 : cum y (12 + 1) = 365 + leapI y := cum13 y
      have hnum : num (y + 1) 1 1 = num y 12 d + 1 := by
        unfold num
        have : cum (y + 1) 1 = 0 := rfl
        omega
      refine .inr (.inr ⟨by omega, rfl, dim_valid1 (y + 1) 1 (by omega) ?_ (by omega) (by omega), hnum⟩)
      rcases Int.lt_or_le 2240 (y + 1) with h | h
      · have : y = 2240 := by omega
        subst this
        have e : num (2240 + 1) 1 1 = 98981 := by decide
        omega
      · exact h

theorem CivilBack_true (n : Int) (_w : (Lit.int .i64 n).wf = true) : law01_CivilBack n = some true := by
  obtain ⟨y, m, d, hv, hnum, _⟩ := ex_date (n % 98900) (by omega) (by omega)
  have hday : 0 ≤ n % 98900 ∧ n % 98900 < 98900 := by omega
  have hnx := next_date hv (by omega)
  have hD := DateOf_ok hv
  have hd2 := hv.2.2
  have hy := hv.1
  have hy2 := hv.2.1
  have hm := valid_month hv
  have hdr := dim_range y m
  simp only [law01_CivilBack, Mod_eq n 98900 (by omega) (by omega), Option.bind_some]
  rw [hnum] at hD hnx
  generalize n % 98900 = day at *
  have hVal : civil_Valid (y, m, d) = some true := by rw [Valid_eq, valid_iff, decide_eq_true hv]
  simp only [hD, Option.bind_some, w64_in (x := day + 1) (by omega) (by omega), Day_ok hv, hnum, hVal, Weekday_nn day (by omega), Weekday_nn (day + 1) (by omega), Days_eq]
  rw [w64_in (x := (day + 3) % 7 + 1) (by omega) (by omega), tmod_nn (by omega)]
  rw [w64_in (x := d + 1) (by omega) (by omega), w64_in (x := m + 1) (by omega) (by omega), w64_in (x := y + 1) (by omega) (by omega)]
  have hw : ((day + 1 + 3) % 7 != ((day + 3) % 7 + 1) % 7) = false := by simp; omega
  rcases hnx with ⟨a1, a2, a3⟩ | ⟨a1, a0, a2, a3⟩ | ⟨a1, a0, a2, a3⟩
  · have hD2 := DateOf_ok a2
    rw [a3] at hD2
    simp only [hD2, Option.bind_some, hw, sane01, beq_f (show d ≠ dim y m by omega)]
    simp
  · have hD2 := DateOf_ok a2
    rw [a3] at hD2
    simp only [hD2, Option.bind_some, hw, sane01, beq_t a1]
    simp
  · have hD2 := DateOf_ok a2
    rw [a3] at hD2
    simp only [hD2, Option.bind_some, hw, sane01, beq_t a1, beq_t a0]
    simp

theorem CivilMonths_true (n : Int) (_w0 : (Lit.int .i64 n).wf = true) (a : Int) (_w1 : (Lit.int .i64 a).wf = true) (b : Int) (_w2 : (Lit.int .i64 b).wf = true) : law01_CivilMonths n a b = some true := by
  obtain ⟨y, m, d, hv, hnum, hc1, hc2, hm1, hm2⟩ := ex_date (20000 + n % 20000) (by omega) (by omega)
  have hy1 : 2024 ≤ y := by
    rcases Int.lt_or_le y 2024 with h | h
    · have := cnt_mono (a := y + 1) (b := 2024) (by omega)
      have e : cnt 2024 = 19723 := by decide
      omega
    · exact h
  have hy2 : y ≤ 2100 := by
    rcases Int.lt_or_le 2100 y with h | h
    · have := cnt_mono (a := 2100) (b := y) (by omega)
      have e : cnt 2100 = 47482 := by decide
      omega
    · exact h
  have hD := DateOf_ok hv
  have hv34 := hv.2.2
  have ha : 0 ≤ a % 400 ∧ a % 400 < 400 := by omega
  have hb : 0 ≤ b % 400 ∧ b % 400 < 400 := by omega
  simp only [law01_CivilMonths, Mod_eq n 20000 (by omega) (by omega), Mod_eq a 400 (by omega) (by omega), Mod_eq b 400 (by omega) (by omega), Option.bind_some]
  rw [hnum] at hD
  rw [w64_in (x := 20000 + n % 20000) (by omega) (by omega), w64_in (x := a % 400 - 200) (by omega) (by omega), w64_in (x := b % 400 - 200) (by omega) (by omega)]
  generalize hA : a % 400 - 200 = A at *
  generalize hB : b % 400 - 200 = B at *
  rw [w64_in (x := A + B) (by omega) (by omega), w64_in (x := 0 - A) (by omega) (by omega)]
  generalize hM : 12 * y + m - 1 = M
  have hyM : y = M / 12 ∧ m = M % 12 + 1 := by omega
  obtain ⟨rfl, rfl⟩ := hyM
  have h1 := AddMonths_ok (n := A) hv (by omega) (by omega) (by omega) (by omega)
  have h3 := AddMonths_ok (n := A + B) hv (by omega) (by omega) (by omega) (by omega)
  rw [hM] at h1 h3
  have hd1 := dim_pos ((M + A) / 12) ((M + A) % 12 + 1) (by omega) (by omega)
  have hv1 : valid ((M + A) / 12) ((M + A) % 12 + 1) (min d (dim ((M + A) / 12) ((M + A) % 12 + 1))) := ⟨by omega, by omega, by omega, by omega⟩
  have h2 := AddMonths_ok (n := B) hv1 (by omega) (by omega) (by omega) (by omega)
  have h4 := AddMonths_ok (n := 0 - A) hv1 (by omega) (by omega) (by omega) (by omega)
  have e1 : 12 * ((M + A) / 12) + ((M + A) % 12 + 1) - 1 + B = M + (A + B) := by omega
  have e2 : 12 * ((M + A) / 12) + ((M + A) % 12 + 1) - 1 + (0 - A) = M := by omega
  rw [e1] at h2
  rw [e2] at h4
  dsimp only at h1 h2 h3 h4
  have hdx := dim_pos ((M + (A + B)) / 12) ((M + (A + B)) % 12 + 1) (by omega) (by omega)
  simp only [hD, Option.bind_some, h1, h2, h3, h4, Days_eq, sane01]
  generalize dim ((M + A) / 12) ((M + A) % 12 + 1) = D1 at *
  generalize dim ((M + (A + B)) / 12) ((M + (A + B)) % 12 + 1) = D2 at *
  have hD0 : d ≤ dim (M / 12) (M % 12 + 1) := hv34.2
  generalize dim (M / 12) (M % 12 + 1) = D0 at *
  have c1 : (decide (min (min d D1) D2 > min d D2)) = false := dec_false (by omega)
  have c2 : (min d D1 != if D1 < d then D1 else d) = false := by
    have : min d D1 = if D1 < d then D1 else d := by split <;> omega
    rw [this]; simp
  simp only [c1, c2, bne_self_eq_false, cond_false, beq_self_eq_true, Bool.true_and]
  by_cases hd28 : d > 28
  · rw [dec_true hd28]; rfl
  · have c3 : (min (min d D1) D0 == d) = true := by simp; omega
    have c4 : (min (min d D1) D2 == min d D2) = true := by simp; omega
    rw [c3, c4]; simp
end Go.Proofs.Pw
