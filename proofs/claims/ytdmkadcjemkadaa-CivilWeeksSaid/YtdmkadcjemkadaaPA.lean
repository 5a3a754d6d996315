/- Small facts on Go's division. -/
import Derived.Test.YtdmkadcjemkadaaLD
import Derived.Test.YtdmkadcjemkadaaFns
open Go Go.Lft
namespace Go.Proofs.Pw

theorem tdm (a b : Int) (hb : 0 < b) : b * Int.tdiv a b + Int.tmod a b = a ∧ (0 ≤ a → 0 ≤ Int.tmod a b) ∧ (a ≤ 0 → Int.tmod a b ≤ 0) ∧ Int.tmod a b < b ∧ -b < Int.tmod a b := by
  have h1 := Int.mul_tdiv_add_tmod a b
  have h2 : 0 ≤ a → 0 ≤ Int.tmod a b := fun h => Int.tmod_nonneg b h
  have h3 : a ≤ 0 → Int.tmod a b ≤ 0 := fun h => by
    have := Int.tmod_nonneg (a := -a) b (by omega)
    rw [Int.neg_tmod] at this; omega
  have h4 := Int.tmod_lt_of_pos a hb
  have h5 : -b < Int.tmod a b := by
    have := Int.tmod_lt_of_pos (-a) hb
    rw [Int.neg_tmod] at this; omega
  exact ⟨h1, h2, h3, h4, h5⟩

theorem tdiv_nn {a b : Int} (ha : 0 ≤ a) : Int.tdiv a b = a / b := Int.tdiv_eq_ediv_of_nonneg ha
theorem tmod_nn {a b : Int} (ha : 0 ≤ a) : Int.tmod a b = a % b := Int.tmod_eq_emod_of_nonneg ha

/-- A remainder is zero in either sense alike. -/
theorem tmod_zero (a b : Int) : (Int.tmod a b == 0) = (a % b == 0) := by
  rw [Bool.eq_iff_iff]
  simp only [beq_iff_eq]
  rw [← Int.dvd_iff_tmod_eq_zero, ← Int.dvd_iff_emod_eq_zero]

theorem dec_true {p : Prop} [Decidable p] (h : p) : decide p = true := decide_eq_true h
theorem dec_false {p : Prop} [Decidable p] (h : ¬ p) : decide p = false := decide_eq_false h
theorem beq_t {a b : Int} (h : a = b) : (a == b) = true := by simp [h]
theorem beq_f {a b : Int} (h : a ≠ b) : (a == b) = false := by simp [h]
theorem inR_t {i : Int} {n : Nat} (h1 : 0 ≤ i) (h2 : i < n) : inR i n = true := by simp [inR, h1, h2]
end Go.Proofs.Pw

/- Chapter 1: days and dates: the plain functions' answers. -/
open Go Go.Lft
namespace Go.Proofs.Pw

/-- A leap year. -/
def leapB (y : Int) : Bool := decide (y % 4 = 0) && (!decide (y % 100 = 0) || decide (y % 400 = 0))
def leapI (y : Int) : Int := if y % 4 = 0 ∧ (y % 100 ≠ 0 ∨ y % 400 = 0) then 1 else 0

theorem leapB_iff (y : Int) : leapB y = true ↔ y % 4 = 0 ∧ (y % 100 ≠ 0 ∨ y % 400 = 0) := by simp [leapB]
theorem leapI_eq (y : Int) : leapI y = if leapB y then 1 else 0 := by
  unfold leapI
  by_cases h : leapB y = true
  · rw [if_pos ((leapB_iff y).1 h), if_pos h]
  · rw [if_neg (fun h' => h ((leapB_iff y).2 h')), if_neg h]
theorem leapI_01 (y : Int) : 0 ≤ leapI y ∧ leapI y ≤ 1 := by unfold leapI; split <;> omega

/-- The days of a month. -/
def dim (y m : Int) : Int :=
  if m < 1 ∨ 12 < m then 0 else if m = 2 then 28 + leapI y else if m = 4 ∨ m = 6 ∨ m = 9 ∨ m = 11 then 30 else 31

/-- The days ahead of a year. -/
def cnt (y : Int) : Int := 365 * (y - 1970) + (y - 1) / 4 - (y - 1) / 100 + (y - 1) / 400 - 477

/-- The days of a year ahead of a month. -/
def cum (y m : Int) : Int :=
  if m ≤ 1 then 0 else if m = 2 then 31 else if m = 3 then 59 + leapI y else if m = 4 then 90 + leapI y else if m = 5 then 120 + leapI y else if m = 6 then 151 + leapI y
  else if m = 7 then 181 + leapI y else if m = 8 then 212 + leapI y else if m = 9 then 243 + leapI y else if m = 10 then 273 + leapI y else if m = 11 then 304 + leapI y else if m = 12 then 334 + leapI y else 365 + leapI y

def num (y m d : Int) : Int := cnt y + cum y m + d - 1

theorem cnt_succ (y : Int) : cnt (y + 1) = cnt y + 365 + leapI y := by
  unfold cnt leapI
  split <;> omega

theorem cnt_mono1 (y : Int) : cnt y + 365 ≤ cnt (y + 1) := by have := cnt_succ y; have := leapI_01 y; omega

theorem cnt_mono {a b : Int} (h : a ≤ b) : cnt a + 365 * (b - a) ≤ cnt b := by unfold cnt; omega

theorem cnt_lt {a b : Int} (h : a < b) : cnt a < cnt b := by have := cnt_mono (a := a) (b := b) (by omega); omega

theorem cum_succ (y m : Int) (h1 : 1 ≤ m) (h2 : m ≤ 12) : cum y (m + 1) = cum y m + dim y m := by
  obtain rfl | rfl | rfl | rfl | rfl | rfl | rfl | rfl | rfl | rfl | rfl | rfl : m = 1 ∨ m = 2 ∨ m = 3 ∨ m = 4 ∨ m = 5 ∨ m = 6 ∨ m = 7 ∨ m = 8 ∨ m = 9 ∨ m = 10 ∨ m = 11 ∨ m = 12 := by omega
  all_goals (simp [cum, dim]; try omega)

theorem dim_range (y m : Int) : 0 ≤ dim y m ∧ dim y m ≤ 31 := by
  have := leapI_01 y
  unfold dim; repeat' split
  all_goals omega

theorem dim_pos (y m : Int) (h1 : 1 ≤ m) (h2 : m ≤ 12) : 28 ≤ dim y m := by
  have := leapI_01 y
  unfold dim; rw [if_neg (by omega)]; repeat' split
  all_goals omega

theorem cum_range (y m : Int) : 0 ≤ cum y m ∧ cum y m ≤ 366 := by
  have := leapI_01 y
  unfold cum; omega

theorem Leap_eq (y : Int) : civil_Leap y = some (leapB y) := by
  have e : (cond (Int.tmod y 4 == (0 : Int)) (cond (Int.tmod y 100 != (0 : Int)) true (Int.tmod y 400 == (0 : Int))) false) = leapB y := by
    unfold bne
    rw [tmod_zero, tmod_zero, tmod_zero, Bool.eq_iff_iff, leapB_iff]
    by_cases h1 : y % 4 = 0 <;> by_cases h2 : y % 100 = 0 <;> by_cases h3 : y % 400 = 0 <;> simp [h1, h2, h3]
  exact congrArg some e

theorem Days_eq (y m : Int) : civil_Days y m = some (dim y m) := by
  by_cases h : m < 1 ∨ 12 < m
  · have hc : cond (decide (m < (1 : Int))) true (decide (m > (12 : Int))) = true := by
      rcases h with h | h <;> by_cases h1 : m < 1 <;> simp [h1] <;> omega
    have : dim y m = 0 := if_pos h
    rw [this]
    unfold civil_Days
    rw [hc]; rfl
  · obtain rfl | rfl | rfl | rfl | rfl | rfl | rfl | rfl | rfl | rfl | rfl | rfl : m = 1 ∨ m = 2 ∨ m = 3 ∨ m = 4 ∨ m = 5 ∨ m = 6 ∨ m = 7 ∨ m = 8 ∨ m = 9 ∨ m = 10 ∨ m = 11 ∨ m = 12 := by omega
    case inr.inl =>
      simp only [civil_Days, Leap_eq, dim, leapI_eq, Option.bind_some]
      cases leapB y <;> rfl
    all_goals rfl

theorem Valid_eq (y m d : Int) : civil_Valid (y, m, d) = some (decide (1970 ≤ y ∧ y ≤ 2240 ∧ 1 ≤ d ∧ d ≤ dim y m)) := by
  simp only [civil_Valid, Days_eq, Option.bind_some]
  by_cases h1 : 1970 ≤ y <;> by_cases h2 : y ≤ 2240 <;> by_cases h3 : 1 ≤ d <;> simp [h1, h2, h3]

theorem floor_eq (a b : Int) (hb : 0 < b) (h1 : -1000000000000 ≤ a) (h2 : a ≤ 1000000000000) : civil_floor a b = some (a / b) := by
  have hb0 : (b == 0) = false := by simp; omega
  obtain ⟨e, p1, p2, p3, p4⟩ := tdm a b hb
  have hq : -1000000000000 ≤ Int.tdiv a b ∧ Int.tdiv a b ≤ 1000000000000 := by
    rcases Int.le_total 0 a with h | h
    · have h0 : 0 ≤ a / b := Int.ediv_nonneg h (by omega)
      have h3 : a / b ≤ a := Int.ediv_le_self b h
      rw [tdiv_nn h]; omega
    · have h0 : 0 ≤ (-a) / b := Int.ediv_nonneg (by omega) (by omega)
      have h3 : (-a) / b ≤ -a := Int.ediv_le_self b (by omega)
      have h4 : Int.tdiv (-a) b = (-a) / b := tdiv_nn (by omega)
      rw [Int.neg_tdiv] at h4; omega
  simp only [civil_floor, hb0, Bool.not_false, cond_true]
  rw [w64_in (x := Int.tdiv a b) (by omega) (by omega)]
  by_cases hm : Int.tmod a b < 0
  · rw [dec_true hm, cond_true, w64_in (by omega) (by omega)]
    congr 1
    have : a / b = Int.tdiv a b - 1 := by
      have h3 : a = (a.tmod b + b) + b * (Int.tdiv a b - 1) := by rw [Int.mul_sub]; omega
      rw [h3, Int.add_mul_ediv_left _ _ (by omega), Int.ediv_eq_zero_of_lt (by omega) (by omega)]
      rw [← h3]; omega
    omega
  · rw [dec_false hm, cond_false]
    congr 1
    have h3 : a = a.tmod b + b * Int.tdiv a b := by omega
    have : a / b = Int.tdiv a b := by
      conv => lhs; rw [h3]
      rw [Int.add_mul_ediv_left _ _ (by omega), Int.ediv_eq_zero_of_lt (by omega) (by omega)]
      omega
    omega

theorem count_eq (y : Int) (h1 : -1000000000 ≤ y) (h2 : y ≤ 1000000000) : civil_count y = some (cnt y) := by
  simp only [civil_count]
  rw [w64_in (x := y - 1) (by omega) (by omega), w64_in (x := y - 1970) (by omega) (by omega), floor_eq _ 4 (by omega) (by omega) (by omega), floor_eq _ 100 (by omega) (by omega) (by omega), floor_eq _ 400 (by omega) (by omega) (by omega)]
  simp only [Option.bind_some]
  simp (disch := omega) only [w64_in]
  rfl

/-- The loop over the months. -/
theorem number_l0 (y m d : Int) (hm : m ≤ 13) : ∀ (n : Nat) (s k : Int), 1 ≤ k → k + n = m → -1000000000000 ≤ s → s + 31 * n ≤ 1000000000000 → civil_number_l0 s k y m d = some (s + cum y m - cum y k)
  | 0, s, k, hk, hn, _, _ => by
    rw [civil_number_l0_eq]
    have : k = m := by omega
    subst this
    simp only [civil_number_l0_step, dec_false (show ¬ k < k by omega), cond_false, lpK_inr]
    congr 1; omega
  | n + 1, s, k, hk, hn, h1, h2 => by
    rw [civil_number_l0_eq]
    have hd := dim_range y k
    have hc := cum_succ y k hk (by omega)
    simp only [civil_number_l0_step, Days_eq, Option.bind_some, dec_true (show k < m by omega), cond_true, lpK_inl]
    rw [w64_in (x := s + dim y k) (by omega) (by omega), w64_in (x := k + 1) (by omega) (by omega)]
    have ih := number_l0 y m d hm n (s + dim y k) (k + 1) (by omega) (by omega) (by omega) (by omega)
    rw [ih]
    congr 1; omega

theorem number_eq (y m d : Int) (h1 : -1000000 ≤ y) (h2 : y ≤ 1000000) (hm1 : 1 ≤ m) (hm2 : m ≤ 12) (hd1 : -1000000 ≤ d) (hd2 : d ≤ 1000000) : civil_number (y, m, d) = some (num y m d) := by
  have hb : -1000000000 ≤ cnt y ∧ cnt y ≤ 1000000000 := by unfold cnt; omega
  simp only [civil_number, count_eq y (by omega) (by omega), Option.bind_some]
  rw [w64_in (x := cnt y + d) (by omega) (by omega), w64_in (by omega) (by omega), number_l0 y m d (by omega) (m - 1).toNat _ 1 (by omega) (by omega) (by omega) (by omega)]
  have : cum y 1 = 0 := rfl
  simp only [Option.bind_some, num]
  congr 1; omega

/-- The year of a day. -/
theorem year_l0 (day y : Int) (hy1 : cnt y ≤ day) (hy2 : day < cnt (y + 1)) (h3 : y ≤ 1000000) : ∀ (n : Nat) (k : Int), k + n = y → -1000000 ≤ k → civil_year_l0 day k = some y
  | 0, k, hn, hk => by
    rw [civil_year_l0_eq]
    have : k = y := by omega
    subst this
    simp only [civil_year_l0_step, w64_in (x := k + 1) (by omega) (by omega), count_eq (k + 1) (by omega) (by omega), Option.bind_some, dec_false (show ¬ cnt (k + 1) ≤ day by omega), cond_false, lpK_inr]
  | n + 1, k, hn, hk => by
    rw [civil_year_l0_eq]
    have := cnt_mono (a := k + 1) (b := y) (by omega)
    simp only [civil_year_l0_step, w64_in (x := k + 1) (by omega) (by omega), count_eq (k + 1) (by omega) (by omega), Option.bind_some, dec_true (show cnt (k + 1) ≤ day by omega), cond_true, lpK_inl]
    have ih := year_l0 day y hy1 hy2 h3 n (k + 1) (by omega) (by omega)
    exact ih

theorem year_eq (day y : Int) (h1 : -365 ≤ day) (h2 : day ≤ 1000000) (hy1 : cnt y ≤ day) (hy2 : day < cnt (y + 1)) : civil_year day = some y := by
  have hq : 1970 + day / 366 ≤ y ∧ -1000000 ≤ day / 366 ∧ y ≤ 1000000 := by
    refine ⟨?_, by omega, ?_⟩
    · rcases Int.lt_or_le y (1970 + day / 366) with h | h
      · have h' := cnt_mono (a := y + 1) (b := 1970 + day / 366) (by omega)
        exfalso
        have : cnt (1970 + day / 366) ≤ day := by unfold cnt; omega
        omega
      · exact h
    · rcases Int.lt_or_le 1000000 y with h | h
      · have := cnt_mono (a := 1000000) (b := y) (by omega)
        have h4 : 364000000 ≤ cnt 1000000 := by decide
        omega
      · exact h
  simp only [civil_year, floor_eq day 366 (by omega) (by omega) (by omega), Option.bind_some]
  rw [w64_in (by omega) (by omega), year_l0 day y hy1 hy2 hq.2.2 (y - (1970 + day / 366)).toNat _ (by omega) (by omega)]
  rfl

theorem Weekday_eq (day : Int) : civil_Weekday day = some ((Int.tmod day 7 + 10) % 7) := by
  obtain ⟨e, p1, p2, p3, p4⟩ := tdm day 7 (by omega)
  simp only [civil_Weekday]
  rw [w64_in (by omega) (by omega), tmod_nn (by omega)]

theorem Weekday_nn (day : Int) (_h : -3 ≤ day) : civil_Weekday day = some ((day + 3) % 7) := by
  rw [Weekday_eq]
  congr 1
  obtain ⟨e, p1, p2, p3, p4⟩ := tdm day 7 (by omega)
  omega

theorem Weekday_range (day : Int) : 0 ≤ (Int.tmod day 7 + 10) % 7 ∧ (Int.tmod day 7 + 10) % 7 ≤ 6 := by omega

/-- A right date. -/
def valid (y m d : Int) : Prop := 1970 ≤ y ∧ y ≤ 2240 ∧ 1 ≤ d ∧ d ≤ dim y m

instance (y m d : Int) : Decidable (valid y m d) := by unfold valid; infer_instance

theorem valid_month {y m d : Int} (h : valid y m d) : 1 ≤ m ∧ m ≤ 12 := by
  obtain ⟨_, _, h3, h4⟩ := h
  by_cases hm : m < 1 ∨ 12 < m
  · have : dim y m = 0 := if_pos hm
    omega
  · omega

theorem valid_iff {y m d : Int} : decide (1970 ≤ y ∧ y ≤ 2240 ∧ 1 ≤ d ∧ d ≤ dim y m) = decide (valid y m d) := rfl

theorem Day_ok {y m d : Int} (h : valid y m d) : civil_Day (y, m, d) = some (num y m d, 0) := by
  have hm := valid_month h
  have hd := dim_range y m
  have hv : civil_Valid (y, m, d) = some true := by rw [Valid_eq, valid_iff, decide_eq_true h]
  obtain ⟨h1, h2, h3, h4⟩ := h
  simp only [civil_Day, hv, Option.bind_some, Bool.not_true, cond_false, number_eq y m d (by omega) (by omega) hm.1 hm.2 (by omega) (by omega)]

theorem Day_no {y m d : Int} (h : ¬ valid y m d) : civil_Day (y, m, d) = some (0, 1) := by
  have hv : civil_Valid (y, m, d) = some false := by rw [Valid_eq, valid_iff, decide_eq_false h]
  simp only [civil_Day, hv, Option.bind_some, Bool.not_false, cond_true]

theorem num_range {y m d : Int} (h : valid y m d) : 0 ≤ num y m d ∧ num y m d < 98981 := by
  have hm := valid_month h
  obtain ⟨h1, h2, h3, h4⟩ := h
  have hc := cum_range y m
  have c1 := cnt_mono (a := 1970) (b := y) (by omega)
  have c2 := cnt_mono (a := y) (b := 2240) (by omega)
  have e1 : cnt 1970 = 0 := by decide
  have hd := dim_range y m
  have e2 : cnt 2240 = 98615 := by decide
  have hcs : cum y m + dim y m ≤ 365 + leapI y := by
    have := cum_succ y m hm.1 hm.2
    have : cum y (m + 1) ≤ 365 + leapI y := by have := leapI_01 y; unfold cum; omega
    omega
  have c3 := cnt_succ y
  have c4 := cnt_mono (a := y + 1) (b := 2241) (by omega)
  have e3 : cnt 2241 = 98981 := by decide
  unfold num; omega
end Go.Proofs.Pw

/- Chapter 1: days and dates: the program's and the reference's answers. -/
open Go Go.Lft
namespace Go.Proofs.Pw

theorem cnt1970 : cnt 1970 = 0 := by decide
theorem cnt2241 : cnt 2241 = 98981 := by decide

theorem ex_year (d : Nat) : ∃ y, 1970 ≤ y ∧ cnt y ≤ d ∧ (d : Int) < cnt (y + 1) := by
  induction d with
  | zero => exact ⟨1970, by omega, by decide, by decide⟩
  | succ d ih =>
    obtain ⟨y, h1, h2, h3⟩ := ih
    by_cases h : ((d + 1 : Nat) : Int) < cnt (y + 1)
    · exact ⟨y, h1, by omega, h⟩
    · have := cnt_lt (a := y + 1) (b := y + 1 + 1) (by omega)
      exact ⟨y + 1, by omega, by omega, by omega⟩

theorem ex_month_to (y r : Int) (h0 : 0 ≤ r) : ∀ k : Nat, k ≤ 12 → r < cum y (k + 1) → ∃ m : Int, 1 ≤ m ∧ m ≤ k ∧ cum y m ≤ r ∧ r < cum y m + dim y m
  | 0, _, h => by have : cum y ((0 : Nat) + 1) = 0 := rfl; omega
  | k + 1, hk, h => by
    by_cases h' : r < cum y (k + 1)
    · obtain ⟨m, h1, h2, h3⟩ := ex_month_to y r h0 k (by omega) h'
      exact ⟨m, h1, by omega, h3⟩
    · have := cum_succ y (k + 1) (by omega) (by omega)
      rw [show ((k + 1 : Nat) : Int) = (k : Int) + 1 from rfl] at h
      exact ⟨k + 1, by omega, by omega, by omega, by omega⟩

theorem cum13 (y : Int) : cum y 13 = 365 + leapI y := by unfold cum; omega

theorem ex_month (y r : Int) (h0 : 0 ≤ r) (h : r < 365 + leapI y) : ∃ m, 1 ≤ m ∧ m ≤ 12 ∧ cum y m ≤ r ∧ r < cum y m + dim y m :=
  ex_month_to y r h0 12 (Nat.le_refl _) (by rw [show ((12 : Nat) : Int) + 1 = 13 from rfl, cum13]; exact h)

/-- Each day has a date. -/
theorem ex_date (day : Int) (h0 : 0 ≤ day) (h1 : day < 98981) : ∃ y m d, valid y m d ∧ num y m d = day ∧ cnt y ≤ day ∧ day < cnt (y + 1) ∧ 1 ≤ m ∧ m ≤ 12 := by
  obtain ⟨y, hy1, hy2, hy3⟩ := ex_year day.toNat
  rw [Int.toNat_of_nonneg h0] at hy2 hy3
  have hs := cnt_succ y
  obtain ⟨m, hm1, hm2, hm3, hm4⟩ := ex_month y (day - cnt y) (by omega) (by omega)
  refine ⟨y, m, day - cnt y - cum y m + 1, ⟨hy1, ?_, by omega, by omega⟩, by unfold num; omega, hy2, hy3, hm1, hm2⟩
  rcases Int.lt_or_le 2240 y with h | h
  · have := cnt_mono (a := 2241) (b := y) (by omega)
    have := cnt2241; omega
  · exact h

/-- A date's place in its year and month. -/
theorem num_in {y m d : Int} (h : valid y m d) : cnt y ≤ num y m d ∧ num y m d < cnt (y + 1) ∧ cum y m ≤ num y m d - cnt y ∧ num y m d - cnt y < cum y m + dim y m ∧ num y m d - cnt y - cum y m + 1 = d := by
  have hm := valid_month h
  obtain ⟨h1, h2, h3, h4⟩ := h
  have hc := cum_range y m
  have := cum_succ y m hm.1 hm.2
  have hs := cnt_succ y
  have : cum y (m + 1) ≤ 365 + leapI y := by have := leapI_01 y; unfold cum; omega
  unfold num; omega

/-- The loop over the months, of the date of a day. -/
theorem DateOf_l0 (y m r x1 x2 x3 x7 : Int) (hm2 : m ≤ 12) (hr0 : 0 ≤ r) (hr : r < dim y m) : ∀ (n : Nat) (k : Int), 1 ≤ k → k + n = m →
    civil_DateOf_l0 (r + cum y m - cum y k) x1 x2 x3 y k x7 = some (r, x1, x2, x3, y, m, x7)
  | 0, k, hk, hn => by
    have : k = m := by omega
    subst this
    rw [civil_DateOf_l0_eq]
    simp only [civil_DateOf_l0_step, Days_eq, Option.bind_some]
    rw [dec_false (show ¬ (r + cum y k - cum y k ≥ dim y k) by omega)]
    simp only [cond_false, lpK_inr]
    rw [show r + cum y k - cum y k = r by omega]
  | n + 1, k, hk, hn => by
    rw [civil_DateOf_l0_eq]
    have hs := cum_succ y k hk (by omega)
    have hmono : cum y (k + 1) ≤ cum y m := by
      have : ∀ (j : Nat), k + 1 + j ≤ 12 → cum y (k + 1) ≤ cum y (k + 1 + j) := by
        intro j
        induction j with
        | zero => intro _; simp
        | succ j ih =>
          intro hj
          have h1 := ih (by omega)
          have h2 := cum_succ y (k + 1 + j) (by omega) (by omega)
          have h3 := dim_range y (k + 1 + j)
          rw [show k + 1 + ((j + 1 : Nat) : Int) = k + 1 + j + 1 by omega]
          omega
      have := this n (by omega)
      rwa [show k + 1 + (n : Int) = m by omega] at this
    have c1 := cum_range y k
    have c2 := cum_range y m
    have c3 := dim_range y k
    have c4 := dim_range y m
    simp only [civil_DateOf_l0_step, Days_eq, Option.bind_some]
    rw [dec_true (show r + cum y m - cum y k ≥ dim y k by omega)]
    simp only [cond_true, lpK_inl]
    rw [w64_in (x := r + cum y m - cum y k - dim y k) (by omega) (by omega), w64_in (x := k + 1) (by omega) (by omega), show r + cum y m - cum y k - dim y k = r + cum y m - cum y (k + 1) by omega]
    exact DateOf_l0 y m r x1 x2 x3 x7 hm2 hr0 hr n (k + 1) (by omega) (by omega)

theorem DateOf_ok {y m d : Int} (h : valid y m d) : civil_DateOf (num y m d) = some ((y, m, d), 0) := by
  have hm := valid_month h
  have hr := num_range h
  obtain ⟨i1, i2, i3, i4, i5⟩ := num_in h
  have hd := dim_range y m
  have hc := cum_range y m
  simp only [civil_DateOf, count_eq 1970 (by omega) (by omega), count_eq 2241 (by omega) (by omega), Option.bind_some, cnt1970, cnt2241]
  rw [dec_false (show ¬ num y m d < 0 by omega), cond_false, dec_false (show ¬ num y m d ≥ 98981 by omega), cond_false, year_eq (num y m d) y (by omega) (by omega) i1 i2]
  simp only [Option.bind_some, count_eq y (by have := h.1; omega) (by have := h.2.1; omega)]
  have hl := DateOf_l0 y m (num y m d - cnt y - cum y m) 0 0 0 0 hm.2 (by omega) (by omega) (m - 1).toNat 1 (by omega) (by omega)
  rw [show num y m d - cnt y - cum y m + cum y m - cum y 1 = num y m d - cnt y by (have : cum y 1 = 0 := rfl); omega] at hl
  rw [w64_in (x := num y m d - cnt y) (by omega) (by omega), hl]
  simp only [Option.bind_some]
  rw [i5, w64_in (by have := h.2.2; omega) (by have := h.2.2; omega)]
theorem DateOf_no (day : Int) (h : day < 0 ∨ 98981 ≤ day) : civil_DateOf day = some ((0, 0, 0), 1) := by
  simp only [civil_DateOf, count_eq 1970 (by omega) (by omega), count_eq 2241 (by omega) (by omega), Option.bind_some, cnt1970, cnt2241]
  rcases h with h | h
  · rw [dec_true h]; rfl
  · rw [dec_false (show ¬ day < 0 by omega), cond_false, dec_true (show day ≥ 98981 by omega)]; rfl

/-- The day of a weekday of a month. -/
def nth (y m k w : Int) : Int :=
  let d := num y m 1 + (w - (num y m 1 + 3) % 7 + 7) % 7 + 7 * (k - 1)
  if d ≥ num y m 1 + dim y m then d - 7 else d

theorem dim_valid1 (y m : Int) (h1 : 1970 ≤ y) (h2 : y ≤ 2240) (hm1 : 1 ≤ m) (hm2 : m ≤ 12) : valid y m 1 := ⟨h1, h2, by omega, by have := dim_pos y m hm1 hm2; omega⟩

theorem Nth_ok (y m k w : Int) (h1 : 1970 ≤ y) (h2 : y ≤ 2240) (hm1 : 1 ≤ m) (hm2 : m ≤ 12) (hk1 : 1 ≤ k) (hk2 : k ≤ 5) (hw1 : 0 ≤ w) (hw2 : w ≤ 6) : civil_Nth y m k w = some (nth y m k w, 0) := by
  have hv := dim_valid1 y m h1 h2 hm1 hm2
  have hr := num_range hv
  have hd := dim_range y m
  have hVal : civil_Valid (y, m, 1) = some true := by rw [Valid_eq, valid_iff, decide_eq_true hv]
  simp only [civil_Nth, hVal, Option.bind_some, Bool.not_true, cond_false]
  rw [dec_false (show ¬ k < 1 by omega), dec_false (show ¬ k > 5 by omega), dec_false (show ¬ w < 0 by omega), dec_false (show ¬ w > 6 by omega)]
  simp only [cond_false, number_eq y m 1 (by omega) (by omega) hm1 hm2 (by omega) (by omega), Option.bind_some, Weekday_nn _ (show -3 ≤ num y m 1 by omega), Days_eq]
  generalize hn : num y m 1 = n at *
  have hm7 : 0 ≤ (n + 3) % 7 ∧ (n + 3) % 7 ≤ 6 := by omega
  rw [w64_in (x := w - (n + 3) % 7) (by omega) (by omega), w64_in (x := w - (n + 3) % 7 + 7) (by omega) (by omega), tmod_nn (show 0 ≤ w - (n + 3) % 7 + 7 by omega)]
  rw [w64_in (x := k - 1) (by omega) (by omega), w64_in (x := 7 * (k - 1)) (by omega) (by omega)]
  rw [w64_in (x := n + (w - (n + 3) % 7 + 7) % 7) (by omega) (by omega), w64_in (x := n + (w - (n + 3) % 7 + 7) % 7 + 7 * (k - 1)) (by omega) (by omega), w64_in (x := n + dim y m) (by omega) (by omega)]
  unfold nth
  simp only [hn]
  by_cases hc : n + (w - (n + 3) % 7 + 7) % 7 + 7 * (k - 1) ≥ n + dim y m
  · rw [dec_true hc, cond_true, if_pos hc, w64_in (by omega) (by omega)]
  · rw [dec_false hc, cond_false, if_neg hc]

theorem Nth_no (y m k w : Int) (h : ¬ (1970 ≤ y ∧ y ≤ 2240 ∧ 1 ≤ m ∧ m ≤ 12 ∧ 1 ≤ k ∧ k ≤ 5 ∧ 0 ≤ w ∧ w ≤ 6)) : civil_Nth y m k w = some (0, 1) := by
  simp only [civil_Nth, Valid_eq, valid_iff, Option.bind_some]
  have hb : (cond (cond (cond (cond (!decide (valid y m 1)) true (decide (k < 1))) true (decide (k > 5))) true (decide (w < 0))) true (decide (w > 6))) = true := by
    by_cases hv : valid y m 1
    · have hm := valid_month hv
      have := hv.1; have := hv.2.1
      by_cases a1 : k < 1 <;> by_cases a2 : k > 5 <;> by_cases a3 : w < 0 <;> by_cases a4 : w > 6 <;> simp [hv, a1, a2, a3, a4] <;> omega
    · simp [hv]
  rw [hb]; rfl

/-- Months added. -/
theorem AddMonths_ok {y m d n : Int} (h : valid y m d) (hn1 : -26880 ≤ n) (hn2 : n ≤ 26880) (h1 : 1970 ≤ (12 * y + m - 1 + n) / 12) (h2 : (12 * y + m - 1 + n) / 12 ≤ 2240) :
    civil_AddMonths ((y, m, d), n).1 n = some (((12 * y + m - 1 + n) / 12, (12 * y + m - 1 + n) % 12 + 1, min d (dim ((12 * y + m - 1 + n) / 12) ((12 * y + m - 1 + n) % 12 + 1))), 0) := by
  have hm := valid_month h
  have hVal : civil_Valid (y, m, d) = some true := by rw [Valid_eq, valid_iff, decide_eq_true h]
  obtain ⟨v1, v2, v3, v4⟩ := h
  simp only [civil_AddMonths, hVal, Option.bind_some, Bool.not_true, cond_false]
  rw [dec_false (show ¬ n < -26880 by omega), dec_false (show ¬ n > 26880 by omega)]
  simp only [cond_false]
  rw [w64_in (x := 12 * y) (by omega) (by omega), w64_in (x := 12 * y + m) (by omega) (by omega), w64_in (x := 12 * y + m - 1) (by omega) (by omega), w64_in (x := 12 * y + m - 1 + n) (by omega) (by omega)]
  generalize hM : 12 * y + m - 1 + n = M at *
  simp only [floor_eq M 12 (by omega) (by omega) (by omega), Option.bind_some, Days_eq]
  rw [w64_in (x := 12 * (M / 12)) (by omega) (by omega), w64_in (x := M - 12 * (M / 12)) (by omega) (by omega), w64_in (x := M - 12 * (M / 12) + 1) (by omega) (by omega), show M - 12 * (M / 12) = M % 12 by omega]
  have hd := dim_pos (M / 12) (M % 12 + 1) (by omega) (by omega)
  have hmin : (if dim (M / 12) (M % 12 + 1) < d then dim (M / 12) (M % 12 + 1) else d) = min d (dim (M / 12) (M % 12 + 1)) := by
    split <;> omega
  rw [hmin]
  have hv2 : civil_Valid (M / 12, M % 12 + 1, min d (dim (M / 12) (M % 12 + 1))) = some true := by
    rw [Valid_eq]
    congr 1
    exact decide_eq_true ⟨h1, h2, by omega, by omega⟩
  simp only [hv2, Option.bind_some, Bool.not_true, cond_false]

theorem AddMonths_no {y m d n : Int} (h : ¬ (valid y m d ∧ 1970 ≤ (12 * y + m - 1 + n) / 12 ∧ (12 * y + m - 1 + n) / 12 ≤ 2240)) : civil_AddMonths (y, m, d) n = some ((0, 0, 0), 1) := by
  by_cases hv : valid y m d
  · have hm := valid_month hv
    have hVal : civil_Valid (y, m, d) = some true := by rw [Valid_eq, valid_iff, decide_eq_true hv]
    simp only [civil_AddMonths, hVal, Option.bind_some, Bool.not_true, cond_false]
    by_cases hn : n < -26880 ∨ n > 26880
    · have hb : cond (decide (n < -26880)) true (decide (n > 26880)) = true := by
        rcases hn with hn | hn
        · simp [hn]
        · rw [dec_true hn]; cases decide (n < -26880) <;> rfl
      rw [hb]; rfl
    · rw [dec_false (show ¬ n < -26880 by omega), dec_false (show ¬ n > 26880 by omega)]
      obtain ⟨v1, v2, v3, v4⟩ := id hv
      simp only [cond_false]
      rw [w64_in (x := 12 * y) (by omega) (by omega), w64_in (x := 12 * y + m) (by omega) (by omega), w64_in (x := 12 * y + m - 1) (by omega) (by omega), w64_in (x := 12 * y + m - 1 + n) (by omega) (by omega)]
      have h' : ¬ (1970 ≤ (12 * y + m - 1 + n) / 12 ∧ (12 * y + m - 1 + n) / 12 ≤ 2240) := fun hh => h ⟨hv, hh⟩
      generalize hM : 12 * y + m - 1 + n = M at *
      simp only [floor_eq M 12 (by omega) (by omega) (by omega), Option.bind_some, Days_eq]
      have hv2 : ∀ a b, civil_Valid (M / 12, a, b) = some false := by
        intro a b
        rw [Valid_eq]
        congr 1
        exact decide_eq_false fun hh => h' ⟨hh.1, hh.2.1⟩
      simp only [hv2, Option.bind_some, Bool.not_false, cond_true]
  · have hVal : civil_Valid (y, m, d) = some false := by rw [Valid_eq, valid_iff, decide_eq_false hv]
    simp only [civil_AddMonths, hVal, Option.bind_some, Bool.not_false, cond_true]

/-- The week of a date. -/
theorem Week_ok {y m d yy : Int} (h : valid y m d) (h1 : cnt yy ≤ num y m d - (num y m d + 3) % 7 + 3) (h2 : num y m d - (num y m d + 3) % 7 + 3 < cnt (yy + 1)) :
    civil_Week (y, m, d) = some (yy, (num y m d - (num y m d + 3) % 7 + 3 - cnt yy) / 7 + 1, 0) := by
  have hm := valid_month h
  have hr := num_range h
  have hd := dim_range y m
  have hVal : civil_Valid (y, m, d) = some true := by rw [Valid_eq, valid_iff, decide_eq_true h]
  obtain ⟨v1, v2, v3, v4⟩ := h
  simp only [civil_Week, hVal, Option.bind_some, Bool.not_true, cond_false, number_eq y m d (by omega) (by omega) hm.1 hm.2 (by omega) (by omega), Weekday_nn _ (show -3 ≤ num y m d by omega)]
  generalize num y m d = n at *
  have hyy : -1000000 ≤ yy ∧ yy ≤ 1000000 := by
    constructor
    · rcases Int.lt_or_le yy (-1000000) with h | h
      · have := cnt_mono (a := yy + 1) (b := 1970) (by omega)
        have := cnt1970; omega
      · exact h
    · rcases Int.lt_or_le 1000000 yy with h | h
      · have := cnt_mono (a := 1970) (b := yy) (by omega)
        have := cnt1970; omega
      · exact h
  rw [w64_in (x := n - (n + 3) % 7) (by omega) (by omega), w64_in (x := n - (n + 3) % 7 + 3) (by omega) (by omega), year_eq _ yy (by omega) (by omega) h1 h2]
  simp only [Option.bind_some, count_eq yy (by omega) (by omega)]
  have hs := cnt_succ yy
  have hl := leapI_01 yy
  rw [w64_in (x := n - (n + 3) % 7 + 3 - cnt yy) (by omega) (by omega), tdiv_nn (by omega), w64_in (x := (n - (n + 3) % 7 + 3 - cnt yy) / 7) (by omega) (by omega), w64_in (by omega) (by omega)]

theorem Week_no {y m d : Int} (h : ¬ valid y m d) : civil_Week (y, m, d) = some (0, 0, 1) := by
  have hVal : civil_Valid (y, m, d) = some false := by rw [Valid_eq, valid_iff, decide_eq_false h]
  simp only [civil_Week, hVal, Option.bind_some, Bool.not_false, cond_true]

theorem Mod_eq (x n : Int) (hn : 0 < n) (hn2 : n ≤ 1000000000000) : made_Mod x n = some (x % n) := by
  have h0 : (n == 0) = false := by simp; omega
  obtain ⟨e, p1, p2, p3, p4⟩ := tdm x n hn
  simp only [made_Mod, h0, Bool.not_false, cond_true]
  rw [w64_in (by omega) (by omega), tmod_nn (by omega)]
  congr 1
  have h3 : x = x.tmod n + n * Int.tdiv x n := by omega
  conv => rhs; rw [h3]
  rw [Int.add_mul_emod_self_left, Int.add_emod_right]

theorem sane01 : law01_sane = some true := by
  have a1 : civil_Day ((2000 : Int), ((3 : Int), (1 : Int))) = some (11017, 0) := by rw [Day_ok (by decide)]; rfl
  have a2 : civil_Nth (2026 : Int) (3 : Int) (5 : Int) (6 : Int) = some (20541, 0) := by rw [Nth_ok _ _ _ _ (by decide) (by decide) (by decide) (by decide) (by decide) (by decide) (by decide) (by decide)]; rfl
  have a3 : civil_AddMonths ((2024 : Int), ((1 : Int), (31 : Int))) (1 : Int) = some ((2024, 2, 29), 0) := by
    have := AddMonths_ok (y := 2024) (m := 1) (d := 31) (n := 1) (by decide) (by decide) (by decide) (by decide) (by decide)
    rw [show civil_AddMonths ((2024 : Int), ((1 : Int), (31 : Int))) (1 : Int) = _ from this]; rfl
  have a4 : civil_Week ((2021 : Int), ((1 : Int), (3 : Int))) = some (2020, 53, 0) := by rw [Week_ok (yy := 2020) (by decide) (by decide) (by decide)]; rfl
  simp only [law01_sane, a1, a2, a3, a4, Option.bind_some, Weekday_nn 11017 (by omega)]
  rfl
end Go.Proofs.Pw
