/- Chapter 1: the reference's answers are the program's. -/
import Derived.Test.YtngdgmapbahdgaaPA
import Derived.Test.YtngdgmapbahdgaaPE
open Go Go.Lft
namespace Go.Proofs.Pw

theorem r01_Leap_eq (y : Int) : r01_Leap y = some (leapB y) := Leap_eq y

theorem r01_Days_eq (y m : Int) : r01_Days y m = some (dim y m) := by
  by_cases h : m < 1 ∨ 12 < m
  · have hk : ∀ k : Int, 1 ≤ k → k ≤ 12 → (m == k) = false := fun k h1 h2 => beq_f (by omega)
    have : dim y m = 0 := if_pos h
    rw [this]
    simp only [r01_Days, hk 1 (by omega) (by omega), hk 2 (by omega) (by omega), hk 3 (by omega) (by omega), hk 4 (by omega) (by omega), hk 5 (by omega) (by omega), hk 6 (by omega) (by omega), hk 7 (by omega) (by omega),
      hk 8 (by omega) (by omega), hk 9 (by omega) (by omega), hk 10 (by omega) (by omega), hk 11 (by omega) (by omega), hk 12 (by omega) (by omega), cond_false]
  · obtain rfl | rfl | rfl | rfl | rfl | rfl | rfl | rfl | rfl | rfl | rfl | rfl : m = 1 ∨ m = 2 ∨ m = 3 ∨ m = 4 ∨ m = 5 ∨ m = 6 ∨ m = 7 ∨ m = 8 ∨ m = 9 ∨ m = 10 ∨ m = 11 ∨ m = 12 := by omega
    case inr.inl =>
      have e : r01_Days y 2 = (r01_Leap y).bind fun r => cond r (some (29 : Int)) (some (28 : Int)) := rfl
      rw [e, r01_Leap_eq, dim, leapI_eq]
      simp only [Option.bind_some]
      cases leapB y <;> rfl
    all_goals rfl

theorem r01_Valid_eq (y m d : Int) : r01_Valid (y, m, d) = some (decide (valid y m d)) := by
  simp only [r01_Valid, r01_Days_eq, Option.bind_some]
  by_cases hv : valid y m d
  · have hm := valid_month hv
    have hv' := hv
    obtain ⟨a1, a2, a3, a4⟩ := hv
    rw [dec_true (show y ≥ 1970 from a1), dec_true a2, dec_true (show m ≥ 1 from hm.1), dec_true hm.2, dec_true (show d ≥ 1 from a3), dec_true a4, dec_true hv']; rfl
  · rw [dec_false hv]
    by_cases a1 : y ≥ 1970
    · by_cases a2 : y ≤ 2240
      · by_cases a3 : m ≥ 1
        · by_cases a4 : m ≤ 12
          · by_cases a5 : d ≥ 1
            · rw [dec_true a1, dec_true a2, dec_true a3, dec_true a4, dec_true a5, dec_false (show ¬ d ≤ dim y m from fun h => hv ⟨a1, a2, a5, h⟩)]; rfl
            · rw [dec_true a1, dec_true a2, dec_true a3, dec_true a4, dec_false a5]; rfl
          · rw [dec_true a1, dec_true a2, dec_true a3, dec_false a4]; rfl
        · rw [dec_true a1, dec_true a2, dec_false a3]; rfl
      · rw [dec_true a1, dec_false a2]; rfl
    · rw [dec_false a1]; rfl

theorem Valid_eq' (y m d : Int) : civil_Valid (y, m, d) = some (decide (valid y m d)) := Valid_eq y m d

theorem r01_year_eq (y : Int) (h1 : 1969 ≤ y) (h2 : y ≤ 1000000000) : r01_year y = some (cnt y) := by
  simp only [r01_year]
  rw [w64_in (x := y - 1970) (by omega) (by omega), w64_in (x := y - 1969) (by omega) (by omega), w64_in (x := y - 1901) (by omega) (by omega), w64_in (x := y - 1601) (by omega) (by omega)]
  rw [tdiv_nn (show 0 ≤ y - 1969 by omega), tdiv_nn (show 0 ≤ y - 1901 by omega), tdiv_nn (show 0 ≤ y - 1601 by omega)]
  simp (disch := omega) only [w64_in]
  congr 1
  unfold cnt
  omega

theorem r01_Day_lp (y m d : Int) (hm : m ≤ 13) : ∀ (n : Nat) (s k : Int), 1 ≤ k → k + n = m → -1000000000000 ≤ s → s + 31 * n ≤ 1000000000000 → r01_Day_l0 s k y m d = some (s + cum y m - cum y k, y, m, d)
  | 0, s, k, hk, hn, _, _ => by
    rw [r01_Day_l0_eq]
    have : k = m := by omega
    subst this
    simp only [r01_Day_l0_step, dec_false (show ¬ k < k by omega), cond_false, lpK_inr]
    congr 2; omega
  | n + 1, s, k, hk, hn, h1, h2 => by
    rw [r01_Day_l0_eq]
    have hd := dim_range y k
    have hc := cum_succ y k hk (by omega)
    simp only [r01_Day_l0_step, r01_Days_eq, Option.bind_some, dec_true (show k < m by omega), cond_true, lpK_inl]
    rw [w64_in (x := s + dim y k) (by omega) (by omega), w64_in (x := k + 1) (by omega) (by omega)]
    rw [r01_Day_lp y m d hm n (s + dim y k) (k + 1) (by omega) (by omega) (by omega) (by omega)]
    congr 2; omega

theorem r01_Day_ok {y m d : Int} (hv : valid y m d) : r01_Day (y, m, d) = some (num y m d, 0) := by
  have hm := valid_month hv
  have hd := dim_range y m
  have hb : -1000000000 ≤ cnt y ∧ cnt y ≤ 1000000000 := by have := hv.1; have := hv.2.1; unfold cnt; omega
  have hc := cum_range y m
  obtain ⟨h1, h2, h3, h4⟩ := id hv
  simp only [r01_Day, r01_Valid_eq, dec_true hv, Option.bind_some, Bool.not_true, cond_false, r01_year_eq y (by omega) (by omega), r01_Day_lp y m d (by omega) (m - 1).toNat (cnt y) 1 (by omega) (by omega) (by omega) (by omega)]
  have : cum y 1 = 0 := rfl
  rw [w64_in (x := cnt y + cum y m - cum y 1 + d) (by omega) (by omega), w64_in (by omega) (by omega)]
  unfold num
  congr 2; omega
theorem r01_Weekday_eq (d : Int) : r01_Weekday d = civil_Weekday d := rfl

theorem r01_Nth_lpa (y m k w n e : Int) (hn0 : 0 ≤ n) (hn1 : n ≤ 1000000) (he6 : e ≤ 6) (hew : (n + e + 3) % 7 = w) :
    ∀ (j : Nat) (s : Int), 0 ≤ s → s + j = e → r01_Nth_l0 y m k w n (n + s) = some (y, m, k, n, n + e)
  | 0, s, hs, hj => by
    rw [r01_Nth_l0_eq]
    have : s = e := by omega
    subst this
    have hb : ((n + s + 3) % 7 != w) = false := by simp [hew]
    simp only [r01_Nth_l0_step, r01_Weekday_eq, Weekday_nn (n + s) (by omega), Option.bind_some, hb, cond_false, lpK_inr]
  | j + 1, s, hs, hj => by
    rw [r01_Nth_l0_eq]
    have hb : ((n + s + 3) % 7 != w) = true := by
      simp only [bne_iff_ne, ne_eq]; omega
    simp only [r01_Nth_l0_step, r01_Weekday_eq, Weekday_nn (n + s) (by omega), Option.bind_some, hb, cond_true, lpK_inl]
    rw [w64_in (x := n + s + 1) (by omega) (by omega), show n + s + 1 = n + (s + 1) by omega]
    exact r01_Nth_lpa y m k w n e hn0 hn1 he6 hew j (s + 1) (by omega) (by omega)

theorem r01_Nth_lpb (y m n t : Int) (hn0 : 0 ≤ n) (hn1 : n ≤ 1000000) (ht1 : t < n + dim y m) (ht2 : n + dim y m ≤ t + 7) (ht0 : -1000 ≤ t) :
    ∀ (j : Nat) (s : Int), s + 7 * j = t → -1000 ≤ s → r01_Nth_l2 y m n s = some t
  | 0, s, hs, _ => by
    have hd := dim_range y m
    rw [r01_Nth_l2_eq]
    have : s = t := by omega
    subst this
    simp only [r01_Nth_l2_step, r01_Days_eq, Option.bind_some]
    rw [w64_in (x := s + 7) (by omega) (by omega), w64_in (x := n + dim y m) (by omega) (by omega), dec_false (show ¬ s + 7 < n + dim y m by omega), cond_false, lpK_inr]
  | j + 1, s, hs, h1 => by
    have hd := dim_range y m
    rw [r01_Nth_l2_eq]
    simp only [r01_Nth_l2_step, r01_Days_eq, Option.bind_some]
    rw [w64_in (x := s + 7) (by omega) (by omega), w64_in (x := n + dim y m) (by omega) (by omega), dec_true (show s + 7 < n + dim y m by omega), cond_true, lpK_inl]
    exact r01_Nth_lpb y m n t hn0 hn1 ht1 ht2 ht0 j (s + 7) (by omega) (by omega)

theorem r01_Nth_ok (y m k w : Int) (h1 : 1970 ≤ y) (h2 : y ≤ 2240) (hm1 : 1 ≤ m) (hm2 : m ≤ 12) (hk1 : 1 ≤ k) (hk2 : k ≤ 5) (hw1 : 0 ≤ w) (hw2 : w ≤ 6) : r01_Nth y m k w = some (nth y m k w, 0) := by
  have hv := dim_valid1 y m h1 h2 hm1 hm2
  have hr := num_range hv
  have hd := dim_pos y m hm1 hm2
  have hd2 := dim_range y m
  simp only [r01_Nth, r01_Day_ok hv, Option.bind_some, bne_self_eq_false]
  rw [dec_false (show ¬ k < 1 by omega), dec_false (show ¬ k > 5 by omega), dec_false (show ¬ w < 0 by omega), dec_false (show ¬ w > 6 by omega)]
  simp only [cond_false]
  unfold nth
  generalize num y m 1 = n at *
  obtain ⟨e, he0, he6, hew, hee⟩ : ∃ e, 0 ≤ e ∧ e ≤ 6 ∧ (n + e + 3) % 7 = w ∧ n + (w - (n + 3) % 7 + 7) % 7 = n + e := ⟨(w - (n + 3) % 7 + 7) % 7, by omega, by omega, by omega, rfl⟩
  rw [hee]
  have hl := r01_Nth_lpa y m k w n e hr.1 (by omega) he6 hew e.toNat 0 (by omega) (by omega)
  rw [Int.add_zero] at hl
  simp only [hl, Option.bind_some]
  by_cases hk : k < 5
  · rw [dec_true hk, cond_true, w64_in (x := k - 1) (by omega) (by omega), w64_in (x := 7 * (k - 1)) (by omega) (by omega), w64_in (by omega) (by omega), if_neg (by omega)]
  · have hk5 : k = 5 := by omega
    subst hk5
    rw [dec_false hk, cond_false]
    by_cases hc : n + e + 7 * (5 - 1) ≥ n + dim y m
    · rw [r01_Nth_lpb y m n (n + e + 21) hr.1 (by omega) (by omega) (by omega) (by omega) 3 (n + e) (by omega) (by omega), if_pos hc]
      simp only [Option.bind_some]
      congr 2; omega
    · rw [r01_Nth_lpb y m n (n + e + 28) hr.1 (by omega) (by omega) (by omega) (by omega) 4 (n + e) (by omega) (by omega), if_neg hc]
      simp only [Option.bind_some]
      congr 2
end Go.Proofs.Pw

/- Chapter 4: the law ZoneRules, on plain functions. -/
open Go Go.Lft
namespace Go.Proofs.Pw

theorem insRev_mem {x y : Int × Int} : ∀ {l : TrL}, y ∈ insRev x l → y = x ∨ y ∈ l
  | [], h => by simp [insRev] at h; exact .inl h
  | z :: zs, h => by
    unfold insRev at h
    split at h
    · rcases List.mem_cons.1 h with rfl | h
      · exact .inr (by simp)
      · rcases insRev_mem h with h | h
        · exact .inl h
        · exact .inr (by simp [h])
    · rcases List.mem_cons.1 h with rfl | h
      · exact .inl rfl
      · exact .inr h

theorem isortRev_mem {y : Int × Int} : ∀ {l acc : TrL}, y ∈ isortRev l acc → y ∈ l ∨ y ∈ acc
  | [], _, h => .inr h
  | x :: xs, acc, h => by
    rcases isortRev_mem (l := xs) h with h | h
    · exact .inl (by simp [h])
    · rcases insRev_mem h with rfl | h
      · exact .inl (by simp)
      · exact .inr h

theorem isort_mem {y : Int × Int} {l : TrL} (h : y ∈ isort l) : y ∈ l := by
  rcases isortRev_mem (List.mem_reverse.1 h) with h | h
  · exact h
  · simp at h

theorem out_mem : ∀ (L : TrL) (now : Int) (i : Nat), i < (outT now L).length → ∃ x ∈ L, tat (outT now L) i + tof now (outT now L) i = x.1 ∧ tof now (outT now L) (i + 1) = x.2
  | [], _, i, hi => by simp [outT] at hi
  | x :: r, now, i, hi => by
    by_cases hx : x.2 = now
    · have e : outT now (x :: r) = outT now r := by simp [outT, hx]
      rw [e] at hi ⊢
      obtain ⟨y, hy, h⟩ := out_mem r now i hi
      exact ⟨y, by simp [hy], h⟩
    · have e : outT now (x :: r) = (x.1 - now, x.2) :: outT x.2 r := by simp [outT, hx]
      rw [e] at hi ⊢
      cases i with
      | zero => exact ⟨x, by simp, by show x.1 - now + now = x.1; omega, rfl⟩
      | succ i =>
        obtain ⟨y, hy, h1, h2⟩ := out_mem r x.2 i (by simpa using hi)
        refine ⟨y, by simp [hy], ?_, ?_⟩
        · cases i with
          | zero => exact h1
          | succ i => exact h1
        · exact h2

theorem occs_mem {x : Int × Int} {l : List Rule} (h : x ∈ occs l) : ∃ r ∈ l, ∃ j : Nat, (j : Int) ≤ r.2.1 - r.1 ∧ x = occ r (r.1 + (j : Int)) := by
  obtain ⟨r, hr, hx⟩ := List.mem_flatMap.1 h
  obtain ⟨i, hi, rfl⟩ := List.mem_map.1 hx
  have hi := List.mem_range.1 hi
  exact ⟨r, hr, i, by omega, rfl⟩

theorem rules_l4 {r : Rule} (h : ROk r) {l : TrL} {i : Nat} (hi : i < l.length) {s a b x y : Int} {rs ss : List Rule} {nm : ByteArray} {o : Int} : ∀ (n : Nat) (k : Int) (f : Bool), r.1 ≤ k → k + n = r.2.1 + 1 →
    ∃ f', law04_ZoneRules_l4 (i : Int) s f k a b rs x y nm o ss r.1 r.2.1 r.2.2.1 r.2.2.2.1 r.2.2.2.2.1 r.2.2.2.2.2.1 r.2.2.2.2.2.2 l = some ((i : Int), s, f', a, b, rs, x, y, nm, o, ss, l) ∧ (f = true → f' = true) ∧
      (∀ j : Nat, j < n → occ r (k + (j : Int)) = (s, (l.getD i (0, 0)).2) → f' = true)
  | 0, k, f, _, hk => by
    rw [law04_ZoneRules_l4_eq]
    simp only [law04_ZoneRules_l4_step]
    rw [dec_false (by omega), cond_false, lpK_inr]
    exact ⟨f, rfl, id, fun j hj => by omega⟩
  | n + 1, k, f, hk0, hk => by
    have h0 := h.y0; have h2 := h.y2; have hs0 := h.s0; have hs1 := h.s1
    have hN := r01_Nth_ok k r.2.2.1 r.2.2.2.1 r.2.2.2.2.1 (by omega) (by omega) h.m0 h.m1 h.k0 h.k1 h.d0 h.d1
    have hr := occ_range h (y := k) (by omega) (by omega)
    have hr2 := num_range (dim_valid1 k r.2.2.1 (by omega) (by omega) h.m0 h.m1)
    have hn2 := nth_range (w := r.2.2.2.2.1) (y := k) (by omega) (by omega) h.m0 h.m1 h.k0 h.k1
    have hd := dim_range k r.2.2.1
    have next : ∀ g : Bool, ∃ f', law04_ZoneRules_l4 (i : Int) s g (k + 1) a b rs x y nm o ss r.1 r.2.1 r.2.2.1 r.2.2.2.1 r.2.2.2.2.1 r.2.2.2.2.2.1 r.2.2.2.2.2.2 l = some ((i : Int), s, f', a, b, rs, x, y, nm, o, ss, l) ∧ (g = true → f' = true) ∧
      (∀ j : Nat, j < n → occ r (k + 1 + (j : Int)) = (s, (l.getD i (0, 0)).2) → f' = true) := fun g => rules_l4 h hi n (k + 1) g (by omega) (by omega)
    have shift : ∀ {f' : Bool}, (∀ j : Nat, j < n → occ r (k + 1 + (j : Int)) = (s, (l.getD i (0, 0)).2) → f' = true) → (occ r k = (s, (l.getD i (0, 0)).2) → f' = true) →
        (∀ j : Nat, j < n + 1 → occ r (k + (j : Int)) = (s, (l.getD i (0, 0)).2) → f' = true) := fun {f'} h1 h2 j hj he => by
      cases j with
      | zero => exact h2 (by rw [show k + ((0 : Nat) : Int) = k by omega] at he; exact he)
      | succ j => exact h1 j (by omega) (by rw [show k + 1 + (j : Int) = k + ((j + 1 : Nat) : Int) by omega]; exact he)
    rw [law04_ZoneRules_l4_eq]
    simp only [law04_ZoneRules_l4_step]
    rw [dec_true (show k ≤ r.2.1 by omega)]
    simp only [cond_true, hN, Option.bind_some, beq_self_eq_true]
    rw [w64_in (x := k + 1) (by omega) (by omega), w64_in (x := nth k r.2.2.1 r.2.2.2.1 r.2.2.2.2.1 * 86400) (by omega) (by omega), w64_in (x := nth k r.2.2.1 r.2.2.2.1 r.2.2.2.2.1 * 86400 + r.2.2.2.2.2.1) (by omega) (by omega)]
    cases f with
    | true =>
      simp only [cond_true, lpK_inl]
      obtain ⟨f', e, g1, g2⟩ := next true
      exact ⟨f', e, fun _ => g1 rfl, shift g2 (fun _ => g1 rfl)⟩
    | false =>
      simp only [cond_false]
      by_cases hs : nth k r.2.2.1 r.2.2.2.1 r.2.2.2.2.1 * 86400 + r.2.2.2.2.2.1 = s
      · rw [beq_t hs, inR_t (by omega) (by omega)]
        simp only [cond_true, lpK_inl, Int.toNat_natCast]
        obtain ⟨f', e, g1, g2⟩ := next (r.2.2.2.2.2.2 == (l.getD i (0, 0)).2)
        exact ⟨f', e, fun h => by simp at h, shift g2 (fun ho => g1 (by have := congrArg Prod.snd ho; exact beq_t this))⟩
      · rw [beq_f hs]
        simp only [cond_false, lpK_inl]
        obtain ⟨f', e, g1, g2⟩ := next false
        exact ⟨f', e, fun h => by simp at h, shift g2 (fun ho => absurd (congrArg Prod.fst ho) hs)⟩

theorem rules_l2 {l : TrL} {i : Nat} (hi : i < l.length) {s a b : Int} {rs ss : List Rule} (hok : ∀ r ∈ rs, ROk r) (hlen : rs.length ≤ 1000) {nm : ByteArray} {o : Int} : ∀ (n k : Nat) (f : Bool), k + n = rs.length →
    ∃ f', law04_ZoneRules_l2 (i : Int) s f a b rs (rs.length : Int) (k : Int) nm o ss l = some ((i : Int), f', a, b, nm, o, ss, l) ∧ (f = true → f' = true) ∧
      (∀ r ∈ rs.drop k, ∀ j : Nat, (j : Int) ≤ r.2.1 - r.1 → occ r (r.1 + (j : Int)) = (s, (l.getD i (0, 0)).2) → f' = true)
  | 0, k, f, hk => by
    rw [law04_ZoneRules_l2_eq]
    simp only [law04_ZoneRules_l2_step]
    rw [dec_false (by omega), cond_false, lpK_inr, List.drop_of_length_le (by omega)]
    exact ⟨f, rfl, id, fun r hr => by simp at hr⟩
  | n + 1, k, f, hk => by
    have hlt : k < rs.length := by omega
    have hr := hok rs[k] (List.getElem_mem hlt)
    have hg : rs.getD k ((0 : Int), ((0 : Int), ((0 : Int), ((0 : Int), ((0 : Int), ((0 : Int), (0 : Int))))))) = rs[k] := by simp [hlt]
    have h1 := hr.y1
    obtain ⟨f1, e1, g1, g2⟩ := rules_l4 hr hi (s := s) (a := a) (b := b) (x := (rs.length : Int)) (y := (k : Int)) (rs := rs) (ss := ss) (nm := nm) (o := o) (rs[k].2.1 - rs[k].1 + 1).toNat rs[k].1 f (by omega) (by omega)
    obtain ⟨f2, e2, k1, k2⟩ := rules_l2 hi (s := s) (a := a) (b := b) (ss := ss) hok hlen (nm := nm) (o := o) n (k + 1) f1 (by omega)
    rw [law04_ZoneRules_l2_eq]
    simp only [law04_ZoneRules_l2_step]
    rw [dec_true (show (k : Int) < (rs.length : Int) by omega), inR_t (by omega) (by omega)]
    simp only [cond_true, Int.toNat_natCast, hg, e1, Option.bind_some]
    rw [w64_in (x := (k : Int) + 1) (by omega) (by omega), lpK_inl]
    refine ⟨f2, e2, fun h => k1 (g1 h), fun r hrm j hj he => ?_⟩
    rw [List.drop_eq_getElem_cons hlt] at hrm
    rcases List.mem_cons.1 hrm with rfl | hrm
    · exact k1 (g2 j (by omega) he)
    · exact k2 r hrm j hj he

theorem rules_l0 {nm : ByteArray} {o : Int} {rs : List Rule} {l : TrL} (hz : ZTab (nm, (o, rs)) l) (hok : ∀ r ∈ rs, ROk r) (hlen : rs.length ≤ 1000)
    (hocc : ∀ i, i < l.length → ∃ r ∈ rs, ∃ j : Nat, (j : Int) ≤ r.2.1 - r.1 ∧ occ r (r.1 + (j : Int)) = (tat l i + tof o l i, tof o l (i + 1))) : ∀ (n i : Nat), i + n = l.length → law04_ZoneRules_l0 (l.length : Int) (i : Int) nm o rs l = some (.inr ())
  | 0, i, hi => by
    rw [law04_ZoneRules_l0_eq]
    simp only [law04_ZoneRules_l0_step]
    rw [dec_false (by omega), cond_false, lpK_inr]
  | n + 1, i, hi => by
    have ht : TOk o l := hz.2
    have hlt : i < l.length := by omega
    have hll := ht.len
    have hbig := frm_big ht hlt
    have hroom := frm_room ht hlt
    have o0 := ht.of0 i (by omega); have o1 := ht.of1 i (by omega)
    have hfa : frm l (i + 1) = tat l i := frm_s hlt
    have hta : (l.getD i ((0 : Int), (0 : Int))).1 = tat l i := rfl
    obtain ⟨r, hr, j, hj, ho⟩ := hocc i hlt
    have hO := OffsetAt_ok hz (t := tat l i - 1) (k := i) (by omega) (by omega) (by omega) (by omega) (by omega)
    dsimp only at hO
    obtain ⟨f', e, _, hf⟩ := rules_l2 hlt (s := tat l i + tof o l i) (a := (l.length : Int)) (b := (i : Int)) (ss := rs) hok hlen (nm := nm) (o := o) rs.length 0 false (by omega)
    have hft : f' = true := hf r (by simpa using hr) j hj ho
    subst hft
    rw [show ((0 : Nat) : Int) = 0 from rfl] at e
    have ih := rules_l0 hz hok hlen hocc n (i + 1) (by omega)
    rw [law04_ZoneRules_l0_eq]
    simp only [law04_ZoneRules_l0_step]
    rw [dec_true (show (i : Int) < (l.length : Int) by omega), inR_t (by omega) (by omega)]
    simp only [cond_true, Int.toNat_natCast, hta]
    rw [w64_in (x := tat l i - 1) (by omega) (by omega)]
    simp only [hO, Option.bind_some, bne_self_eq_false, cond_false]
    rw [w64_in (x := tat l i + tof o l i) (by omega) (by omega)]
    simp only [show Int.ofNat (List.length rs) = (rs.length : Int) from rfl, e, Option.bind_some, Bool.not_true, cond_false, Int.toNat_natCast]
    rw [inR_t (show (0 : Int) ≤ (i : Int) by omega) (by omega), w64_in (x := (i : Int) + 1) (by omega) (by omega)]
    simp only [cond_true, hta]
    by_cases h0 : i = 0
    · rw [dec_false (by omega), cond_false, lpK_inl]
      exact ih
    · obtain ⟨p, rfl⟩ : ∃ p, i = p + 1 := ⟨i - 1, by omega⟩
      have hgap := ht.gap p (by omega)
      have hbp := frm_big ht (k := p) (by omega)
      rw [frm_s (by omega)] at hbp
      rw [dec_true (by omega), w64_in (x := ((p + 1 : Nat) : Int) - 1) (by omega) (by omega), inR_t (by omega) (by omega), show (((p + 1 : Nat) : Int) - 1).toNat = p by omega]
      simp only [cond_true, show (l.getD p ((0 : Int), (0 : Int))).1 = tat l p from rfl]
      rw [w64_in (x := tat l (p + 1) - tat l p) (by omega) (by omega), dec_false (by omega), cond_false, lpK_inl]
      exact ih

theorem ZoneRules_true (t : List Int) (_h : Wf (.list (.int .i64)) t) (n : Int) (_h2 : Wf (.int .i64) n) : law04_ZoneRules t n = some true := by
  simp only [law04_ZoneRules, made_Light, Option.bind_some, show Int.ofNat (List.length t) = (t.length : Int) from rfl]
  by_cases hl : (t.length : Int) ≤ 500
  · rw [dec_true hl]
    simp only [Bool.not_true, cond_false, made_Roll, Option.bind_some]
    obtain ⟨o, rs, a', e, hm, _⟩ := Zone_ok (L := t) (a := 0) ⟨by omega, by omega, by omega⟩ (ByteArray.mk #[97])
    have hz := hm.tab (ByteArray.mk #[97])
    have hocc : ∀ i, i < (outT o (isort (occs rs))).length → ∃ r ∈ rs, ∃ j : Nat, (j : Int) ≤ r.2.1 - r.1 ∧ occ r (r.1 + (j : Int)) = (tat (outT o (isort (occs rs))) i + tof o (outT o (isort (occs rs))) i, tof o (outT o (isort (occs rs))) (i + 1)) := fun i hi => by
      obtain ⟨x, hx, h1, h2⟩ := out_mem _ o i hi
      obtain ⟨r, hr, j, hj, hxe⟩ := occs_mem (isort_mem hx)
      exact ⟨r, hr, j, hj, by rw [h1, h2, ← hxe]⟩
    generalize outT o (isort (occs rs)) = l at hz hocc
    have hrl := hm.len
    have := rules_l0 hz hm.ok (by omega) hocc l.length 0 (by omega)
    rw [show ((0 : Nat) : Int) = 0 from rfl] at this
    simp only [e, Option.bind_some, show zone_Transitions (ByteArray.mk #[97], (o, rs)) = _ from hz.1, bne_self_eq_false, cond_false, show Int.ofNat (List.length l) = (l.length : Int) from rfl, this, sumC_inr, sane04]
  · rw [dec_false hl]
    simp only [Bool.not_false, cond_true, sane04, Option.bind_some]
end Go.Proofs.Pw
