/- The laws CivilNth and CivilWeeks, on plain functions. -/
import Derived.Test.YtdmkadcjemkadaaPA
open Go Go.Lft
namespace Go.Proofs.Pw

/-- The days of a weekday, from the first one on. -/
def wds (f : Int) (c : Nat) : List Int := (List.range c).map fun (i : Nat) => f + 7 * (i : Int)

theorem wds_succ (f : Int) (c : Nat) : wds f (c + 1) = wds f c ++ [f + 7 * (c : Int)] := by
  simp [wds, List.range_succ]
theorem wds_len (f : Int) (c : Nat) : (wds f c).length = c := by simp [wds]
theorem wds_get (f : Int) (c i : Nat) (h : i < c) : (wds f c).getD i 0 = f + 7 * (i : Int) := by
  simp [wds, List.getD, h]

theorem nth_l0 (y m w n e : Int) (h1 : 1970 ≤ y) (h2 : y ≤ 2240) (hm1 : 1 ≤ m) (hm2 : m ≤ 12) (hn : n = num y m 1) (he0 : 0 ≤ e) (he6 : e ≤ 6) (hew : (n + e + 3) % 7 = w) :
    ∀ (j : Nat) (s : Int), 1 ≤ s → s + j = dim y m + 1 →
      law01_CivilNth_l0 y m w s (wds (n + e) ((s + 5 - e) / 7).toNat) = some (.inr (y, m, w, wds (n + e) ((dim y m + 6 - e) / 7).toNat))
  | 0, s, hs, hj => by
    have hd := dim_range y m
    rw [law01_CivilNth_l0_eq]
    simp only [law01_CivilNth_l0_step, Days_eq, Option.bind_some, dec_false (show ¬ s ≤ dim y m by omega), cond_false, lpK_inr]
    rw [show dim y m + 6 - e = s + 5 - e by omega]
  | j + 1, s, hs, hj => by
    have hd := dim_range y m
    have hv : valid y m s := ⟨h1, h2, hs, by omega⟩
    have hr := num_range (dim_valid1 y m h1 h2 hm1 hm2)
    have hnum : num y m s = n + (s - 1) := by rw [hn]; unfold num; omega
    have ih := nth_l0 y m w n e h1 h2 hm1 hm2 hn he0 he6 hew j (s + 1) (by omega) (by omega)
    rw [law01_CivilNth_l0_eq]
    simp only [law01_CivilNth_l0_step, Days_eq, Option.bind_some, dec_true (show s ≤ dim y m by omega), cond_true, Day_ok hv, bne_self_eq_false, cond_false, hnum, Weekday_nn _ (show -3 ≤ n + (s - 1) by omega)]
    rw [w64_in (x := s + 1) (by omega) (by omega)]
    by_cases hw : (n + (s - 1) + 3) % 7 = w
    · rw [beq_t hw]
      have hlen : (wds (n + e) ((s + 5 - e) / 7).toNat).length + [n + (s - 1)].length ≤ sizeMax := by
        rw [wds_len]; simp only [List.length_singleton, sizeMax]; omega
      simp only [cond_true, decide_eq_true hlen, lpK_inl]
      have hc : ((s + 1 + 5 - e) / 7).toNat = ((s + 5 - e) / 7).toNat + 1 := by omega
      have hx : n + (s - 1) = n + e + 7 * (((s + 5 - e) / 7).toNat : Int) := by omega
      rw [hc, wds_succ, ← hx] at ih
      exact ih
    · rw [beq_f hw]
      simp only [cond_false, lpK_inl]
      have hc : ((s + 1 + 5 - e) / 7).toNat = ((s + 5 - e) / 7).toNat := by omega
      rw [hc] at ih
      exact ih

theorem nth_l2 (y m w n e : Int) (h1 : 1970 ≤ y) (h2 : y ≤ 2240) (hm1 : 1 ≤ m) (hm2 : m ≤ 12) (hw0 : 0 ≤ w) (hw6 : w ≤ 6) (hn : n = num y m 1) (he0 : 0 ≤ e) (he6 : e ≤ 6) (hew : (n + e + 3) % 7 = w) :
    ∀ (j : Nat) (k : Int), 1 ≤ k → k + j = 6 → law01_CivilNth_l2 y m w k (wds (n + e) ((dim y m + 6 - e) / 7).toNat) = some (.inr ())
  | 0, k, hk, hj => by
    rw [law01_CivilNth_l2_eq]
    simp only [law01_CivilNth_l2_step, dec_false (show ¬ k ≤ 5 by omega), cond_false, lpK_inr]
  | j + 1, k, hk, hj => by
    have hd := dim_range y m
    have hd28 := dim_pos y m hm1 hm2
    have hr := num_range (dim_valid1 y m h1 h2 hm1 hm2)
    rw [law01_CivilNth_l2_eq]
    simp only [law01_CivilNth_l2_step, dec_true (show k ≤ 5 by omega), cond_true, Nth_ok y m k w h1 h2 hm1 hm2 hk (by omega) hw0 hw6, Option.bind_some]
    have hnth : nth y m k w = if n + e + 7 * (k - 1) ≥ n + dim y m then n + e + 7 * (k - 1) - 7 else n + e + 7 * (k - 1) := by
      unfold nth
      rw [← hn]
      have : n + (w - (n + 3) % 7 + 7) % 7 = n + e := by omega
      rw [this]
    rw [hnth, w64_in (x := k - 1) (by omega) (by omega), wds_len]
    generalize hc : ((dim y m + 6 - e) / 7).toNat = c at *
    have hc45 : (c : Int) = (dim y m + 6 - e) / 7 := by omega
    rw [show (if (3 : Int) < k - 1 then (3 : Int) else k - 1) = min (k - 1) 3 by split <;> omega]
    rw [show Int.ofNat c = (c : Int) from rfl, w64_in (x := (c : Int) - 1) (by omega) (by omega), inR_t (i := min (k - 1) 3) (by omega) (by omega), inR_t (i := (c : Int) - 1) (by omega) (by omega)]
    rw [wds_get (n + e) c (min (k - 1) 3).toNat (by omega), wds_get (n + e) c ((c : Int) - 1).toNat (by omega)]
    simp only [bne_self_eq_false, cond_false, cond_true, Bool.true_or]
    have ih := nth_l2 y m w n e h1 h2 hm1 hm2 hw0 hw6 hn he0 he6 hew j (k + 1) (by omega) (by omega)
    rw [hc] at ih
    rw [w64_in (x := k + 1) (by omega) (by omega)]
    by_cases hk5 : k = 5
    · subst hk5
      simp only [show decide ((5 : Int) < 5) = false from rfl, cond_false, beq_self_eq_true, cond_true]
      have hx : ((if n + e + 7 * (5 - 1) ≥ n + dim y m then n + e + 7 * (5 - 1) - 7 else n + e + 7 * (5 - 1)) != n + e + 7 * ((((c : Int) - 1).toNat : Nat) : Int)) = false := by
        simp only [bne_eq_false_iff_eq]
        split <;> omega
      simp only [hx, cond_false, lpK_inl]
      exact ih
    · rw [dec_true (show k < 5 by omega), beq_f hk5]
      have hx : ((if n + e + 7 * (k - 1) ≥ n + dim y m then n + e + 7 * (k - 1) - 7 else n + e + 7 * (k - 1)) != n + e + 7 * ((((min (k - 1) 3)).toNat : Nat) : Int)) = false := by
        simp only [bne_eq_false_iff_eq]
        split <;> omega
      simp only [hx, cond_false, cond_true, lpK_inl]
      exact ih

theorem CivilNth_true (a0 : Int) (_w0 : (Lit.int .i64 a0).wf = true) (a1 : Int) (_w1 : (Lit.int .i64 a1).wf = true) (a2 : Int) (_w2 : (Lit.int .i64 a2).wf = true) : law01_CivilNth a0 a1 a2 = some true := by
  simp only [law01_CivilNth, Mod_eq a0 271 (by omega) (by omega), Mod_eq a1 12 (by omega) (by omega), Mod_eq a2 7 (by omega) (by omega), Option.bind_some]
  rw [w64_in (x := 1970 + a0 % 271) (by omega) (by omega), w64_in (x := 1 + a1 % 12) (by omega) (by omega)]
  have g1 : 1970 ≤ 1970 + a0 % 271 ∧ 1970 + a0 % 271 ≤ 2240 := by omega
  have g2 : 1 ≤ 1 + a1 % 12 ∧ 1 + a1 % 12 ≤ 12 := by omega
  have g3 : 0 ≤ a2 % 7 ∧ a2 % 7 ≤ 6 := by omega
  generalize 1970 + a0 % 271 = y at *
  generalize 1 + a1 % 12 = m at *
  generalize a2 % 7 = w at *
  have hd := dim_range y m
  have hd28 := dim_pos y m g2.1 g2.2
  generalize hn : num y m 1 = n
  have he : ∃ e, 0 ≤ e ∧ e ≤ 6 ∧ (n + e + 3) % 7 = w := ⟨(w - (n + 3) % 7 + 7) % 7, by omega, by omega, by omega⟩
  obtain ⟨e, he0, he6, hew⟩ := he
  have l0 := nth_l0 y m w n e g1.1 g1.2 g2.1 g2.2 hn.symm he0 he6 hew (dim y m).toNat 1 (by omega) (by omega)
  have l2 := nth_l2 y m w n e g1.1 g1.2 g2.1 g2.2 g3.1 g3.2 hn.symm he0 he6 hew 5 1 (by omega) (by omega)
  rw [show (((1 : Int) + 5 - e) / 7).toNat = 0 by omega] at l0
  have l0' : law01_CivilNth_l0 y m w 1 [] = _ := l0
  rw [l0']
  simp only [Option.bind_some, sumC_inr, wds_len, l2, sane01]
  rw [show Int.ofNat ((dim y m + 6 - e) / 7).toNat = (((dim y m + 6 - e) / 7).toNat : Int) from rfl, dec_false (by omega)]
  rfl

/-- The week of a Thursday. -/
theorem ex_thu (t : Int) (h0 : 0 ≤ t) : ∃ y, 1970 ≤ y ∧ cnt y ≤ t ∧ t < cnt (y + 1) := by
  obtain ⟨y, h1, h2, h3⟩ := ex_year t.toNat
  rw [Int.toNat_of_nonneg h0] at h2 h3
  exact ⟨y, h1, h2, h3⟩

theorem cnt_uniq {a b t : Int} (h1 : cnt a ≤ t) (h2 : t < cnt (a + 1)) (h3 : cnt b ≤ t) (h4 : t < cnt (b + 1)) : a = b := by
  rcases Int.lt_or_le a b with h | h
  · have := cnt_mono (a := a + 1) (b := b) (by omega); omega
  · rcases Int.lt_or_le b a with h' | h'
    · have := cnt_mono (a := b + 1) (b := a) (by omega); omega
    · omega

theorem wk_step (D y0 w0 i : Int) (hD0 : 4 ≤ D) (hD1 : D + 7 < 98981) (hD : (D + 3) % 7 = 0) (hi0 : 0 ≤ i) (hi7 : i ≤ 7) (yi : Int) (h1 : cnt yi ≤ D + i - i % 7 + 3) (h2 : D + i - i % 7 + 3 < cnt (yi + 1))
    (b4 b5 : List Int) (hs : 0 < i → i < 7 → yi = y0 ∧ (D + i - i % 7 + 3 - cnt yi) / 7 + 1 = w0 ∧ (List.set b4 i.toNat yi).getD 0 0 = y0 ∧ (List.set b5 i.toNat w0).getD 0 0 = w0) :
    law01_CivilWeeks_l0_step D i b4 b5 = some (.inl (D, i + 1, List.set b4 i.toNat yi, List.set b5 i.toNat ((D + i - i % 7 + 3 - cnt yi) / 7 + 1))) := by
  obtain ⟨y, m, d, hv, hnum, _⟩ := ex_date (D + i) (by omega) (by omega)
  have hDt := DateOf_ok hv
  have hW := Week_ok (yy := yi) hv (by rw [hnum]; omega) (by rw [hnum]; omega)
  rw [hnum] at hDt hW
  rw [show D + i - (D + i + 3) % 7 + 3 = D + i - i % 7 + 3 by omega] at hW
  simp only [law01_CivilWeeks_l0_step, dec_true (show i < 8 by omega), cond_true, w64_in (x := D + i) (by omega) (by omega), hDt, hW, Option.bind_some, bne_self_eq_false, cond_false, Weekday_nn (D + i) (by omega), tmod_nn hi0,
    inR_t (n := 8) hi0 (by omega), w64_in (x := i + 1) (by omega) (by omega)]
  have hb : ((D + i + 3) % 7 != i % 7) = false := by simp; omega
  rw [hb]
  simp only [cond_false]
  by_cases hc : 0 < i ∧ i < 7
  · obtain ⟨a1, a2, a3, a4⟩ := hs hc.1 hc.2
    rw [a2, a3, a4, a1]
    simp
  · have : (cond (decide (i > (0 : Int))) (decide (i < (7 : Int))) false) = false := by
      by_cases h : i > 0
      · rw [dec_true h, dec_false (show ¬ i < 7 by omega)]; rfl
      · rw [dec_false h]; rfl
    rw [this]
    simp

theorem CivilWeeks_true (n : Int) (_w0 : (Lit.int .i64 n).wf = true) : law01_CivilWeeks n = some true := by
  simp only [law01_CivilWeeks, Mod_eq n 98000 (by omega) (by omega), Option.bind_some]
  rw [w64_in (x := 4 + n % 98000) (by omega) (by omega), Weekday_nn (4 + n % 98000) (by omega)]
  simp only [Option.bind_some]
  rw [w64_in (x := 4 + n % 98000 - (4 + n % 98000 + 3) % 7) (by omega) (by omega)]
  have g1 : 4 ≤ 4 + n % 98000 - (4 + n % 98000 + 3) % 7 ∧ 4 + n % 98000 - (4 + n % 98000 + 3) % 7 + 7 < 98981 ∧ (4 + n % 98000 - (4 + n % 98000 + 3) % 7 + 3) % 7 = 0 := by omega
  generalize 4 + n % 98000 - (4 + n % 98000 + 3) % 7 = D at *
  obtain ⟨hD0, hD1, hD⟩ := g1
  obtain ⟨y0, hy0, hy1, hy2⟩ := ex_thu (D + 3) (by omega)
  obtain ⟨y7, hz0, hz1, hz2⟩ := ex_thu (D + 10) (by omega)
  obtain ⟨w0, hw0⟩ : ∃ w0, w0 = (D + 3 - cnt y0) / 7 + 1 := ⟨_, rfl⟩
  obtain ⟨w7, hw7⟩ : ∃ w7, w7 = (D + 10 - cnt y7) / 7 + 1 := ⟨_, rfl⟩
  have hst : ∀ i : Int, 0 ≤ i → i < 7 → ∀ b4 b5 : List Int, (0 < i → (List.set b4 i.toNat y0).getD 0 0 = y0 ∧ (List.set b5 i.toNat w0).getD 0 0 = w0) →
      law01_CivilWeeks_l0 D i b4 b5 = law01_CivilWeeks_l0 D (i + 1) (List.set b4 i.toNat y0) (List.set b5 i.toNat w0) := by
    intro i hi0 hi7 b4 b5 hb
    rw [law01_CivilWeeks_l0_eq, wk_step D y0 w0 i hD0 hD1 hD hi0 (by omega) y0 (by omega) (by omega) b4 b5 (fun h1 h2 => ⟨rfl, by rw [hw0]; congr 1; omega, (hb h1).1, (hb h1).2⟩), lpK_inl]
    rw [show (D + i - i % 7 + 3 - cnt y0) / 7 + 1 = w0 by rw [hw0]; congr 1; omega]
  have hall : law01_CivilWeeks_l0 D 0 (List.replicate 8 0) (List.replicate 8 0) = some (.inr (D, [y0, y0, y0, y0, y0, y0, y0, y7], [w0, w0, w0, w0, w0, w0, w0, w7])) := by
    rw [hst 0 (by omega) (by omega) _ _ (fun h => by omega)]
    rw [hst (0 + 1) (by omega) (by omega) _ _ (fun h => ⟨rfl, rfl⟩), hst (0 + 1 + 1) (by omega) (by omega) _ _ (fun h => ⟨rfl, rfl⟩), hst (0 + 1 + 1 + 1) (by omega) (by omega) _ _ (fun h => ⟨rfl, rfl⟩),
      hst (0 + 1 + 1 + 1 + 1) (by omega) (by omega) _ _ (fun h => ⟨rfl, rfl⟩), hst (0 + 1 + 1 + 1 + 1 + 1) (by omega) (by omega) _ _ (fun h => ⟨rfl, rfl⟩), hst (0 + 1 + 1 + 1 + 1 + 1 + 1) (by omega) (by omega) _ _ (fun h => ⟨rfl, rfl⟩)]
    rw [law01_CivilWeeks_l0_eq, wk_step D y0 w0 (0 + 1 + 1 + 1 + 1 + 1 + 1 + 1) hD0 hD1 hD (by omega) (by omega) y7 (by omega) (by omega) _ _ (fun h1 h2 => by omega), lpK_inl, law01_CivilWeeks_l0_eq]
    simp only [law01_CivilWeeks_l0_step]
    rw [dec_false (by omega), cond_false, lpK_inr]
    rw [show (D + (0 + 1 + 1 + 1 + 1 + 1 + 1 + 1) - (0 + 1 + 1 + 1 + 1 + 1 + 1 + 1) % 7 + 3 - cnt y7) / 7 + 1 = w7 by rw [hw7]; congr 1; omega]
    rfl
  rw [hall]
  simp only [Option.bind_some, sumC_inr]
  obtain ⟨y, m, d, hv, hnum, hc1, hc2, hm1, hm2⟩ := ex_date (D + 3) (by omega) (by omega)
  have hDt := DateOf_ok hv
  rw [hnum] at hDt
  have hyy : y = y0 := cnt_uniq hc1 hc2 hy1 hy2
  subst hyy
  have hnum1 : num y 1 1 = cnt y := by
    have : cum y 1 = 0 := rfl
    unfold num; omega
  rw [w64_in (x := D + 3) (by omega) (by omega), hDt]
  simp only [Option.bind_some, Day_ok (dim_valid1 y 1 hv.1 hv.2.1 (by omega) (by omega)), hnum1, List.getD_cons_zero, List.getD_cons_succ]
  have hs := cnt_succ y
  have hl := leapI_01 y
  have hy2' := hv.2.1
  rw [w64_in (x := D + 3 - cnt y) (by omega) (by omega), tdiv_nn (by omega), w64_in (x := (D + 3 - cnt y) / 7) (by omega) (by omega), w64_in (x := (D + 3 - cnt y) / 7 + 1) (by omega) (by omega), ← hw0]
  simp only [bne_self_eq_false, cond_false, sane01, Option.bind_some]
  rw [w64_in (x := w0 + 1) (by omega) (by omega), w64_in (x := y + 1) (by omega) (by omega)]
  by_cases hc : D + 10 < cnt (y + 1)
  · have : y7 = y := cnt_uniq hz1 hz2 (by omega) hc
    subst this
    have : w7 = w0 + 1 := by rw [hw7, hw0]; omega
    rw [this]
    simp
  · have hs2 := cnt_succ (y + 1)
    have hl2 := leapI_01 (y + 1)
    have : y7 = y + 1 := cnt_uniq hz1 hz2 (by omega) (by omega)
    subst this
    have e1 : w7 = 1 := by rw [hw7]; omega
    rw [e1, beq_t (rfl : y + 1 = y + 1), beq_t (rfl : (1 : Int) = 1), dec_true (show w0 ≥ 52 by rw [hw0]; omega)]
    simp
end Go.Proofs.Pw
