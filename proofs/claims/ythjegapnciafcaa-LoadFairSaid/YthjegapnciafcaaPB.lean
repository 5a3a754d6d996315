/- Chapter 17: loads that the dice make; their shares. -/
import Derived.Test.YthjegapnciafcaaPA
import Derived.Test.YthjegapnciafcaaLD
open Go Go.Lft
namespace Go.Proofs.Pw

abbrev LoadL := List (Int × (Int × Int))
def ld (l : LoadL) (i : Nat) : Int × (Int × Int) := l.getD i (0, 0, 0)

/-- Loads as the dice make them. -/
structure OKL (l : LoadL) : Prop where
  len : l.length ≤ 4
  p0 : ∀ i, i < l.length → 0 ≤ (ld l i).1
  p1 : ∀ i, i < l.length → (ld l i).1 ≤ 9
  asc : ∀ i, i + 1 < l.length → (ld l i).1 < (ld l (i + 1)).1
  s0 : ∀ i, i < l.length → 0 ≤ (ld l i).2.1
  s1 : ∀ i, i < l.length → (ld l i).2.1 ≤ 86400
  w0 : ∀ i, i < l.length → (ld l i).2.1 ≤ (ld l i).2.2
  w1 : ∀ i, i < l.length → (ld l i).2.2 ≤ 3 * (ld l i).2.1

theorem OKL.lt {l : LoadL} (h : OKL l) : ∀ (k i : Nat), i + k + 1 < l.length → (ld l i).1 < (ld l (i + k + 1)).1
  | 0, i, hk => h.asc i hk
  | k + 1, i, hk => by
    have h1 := OKL.lt h k i (by omega)
    have h2 := h.asc (i + k + 1) (by omega)
    rw [show i + (k + 1) + 1 = i + k + 1 + 1 by omega]
    omega

theorem right_lp {l : LoadL} (h : OKL l) : ∀ (n : Nat) (i : Nat), i + n = l.length → load_right_l0 l l (l.length : Int) (i : Int) = some (.inr ())
  | 0, i, hi => by
    rw [load_right_l0_eq]
    simp only [load_right_l0_step, dec_false (show ¬ (i : Int) < (l.length : Int) by omega), cond_false, lpK_inr]
  | n + 1, i, hi => by
    have hlt : i < l.length := by omega
    have a1 := h.p0 i hlt; have a2 := h.p1 i hlt; have a3 := h.s0 i hlt; have a4 := h.s1 i hlt; have a5 := h.w0 i hlt; have a6 := h.w1 i hlt
    have hlen := h.len
    rw [load_right_l0_eq]
    simp only [load_right_l0_step, dec_true (show (i : Int) < (l.length : Int) by omega), cond_true, inR_t (show (0 : Int) ≤ (i : Int) by omega) (show (i : Int) < ((l.length : Nat) : Int) by omega), Int.toNat_natCast]
    simp only [show l.getD i ((0 : Int), ((0 : Int), (0 : Int))) = ld l i from rfl]
    have ih := right_lp h n (i + 1) (by omega)
    have e8 : w64 (8 * (ld l i).2.1) = 8 * (ld l i).2.1 := w64_in (by omega) (by omega)
    have ei : w64 ((i : Int) + 1) = ((i + 1 : Nat) : Int) := w64_in (by omega) (by omega)
    rw [e8, ei, dec_false (show ¬ (ld l i).1 < 0 by omega), dec_false (show ¬ (ld l i).1 ≥ 32 by omega), dec_false (show ¬ (ld l i).2.1 < 0 by omega), dec_false (show ¬ (ld l i).2.1 > 8589934592 by omega),
      dec_false (show ¬ (ld l i).2.2 < (ld l i).2.1 by omega), dec_false (show ¬ (ld l i).2.2 > 8 * (ld l i).2.1 by omega)]
    simp only [cond_false]
    by_cases h0 : i = 0
    · subst h0
      rw [dec_false (show ¬ ((0 : Nat) : Int) > 0 by omega)]
      simp only [cond_false, lpK_inl]
      exact ih
    · have hp := h.asc (i - 1) (by omega)
      rw [show i - 1 + 1 = i by omega] at hp
      rw [dec_true (show (i : Int) > 0 by omega), w64_in (x := (i : Int) - 1) (by omega) (by omega), inR_t (by omega) (by omega), show ((i : Int) - 1).toNat = i - 1 by omega,
        show l.getD (i - 1) ((0 : Int), ((0 : Int), (0 : Int))) = ld l (i - 1) from rfl, dec_false (show ¬ (ld l i).1 ≤ (ld l (i - 1)).1 by omega)]
      simp only [cond_true, cond_false, lpK_inl]
      exact ih

theorem right_ok {l : LoadL} (h : OKL l) : load_right l = some true := by
  have := right_lp h l.length 0 (by omega)
  have hlen := h.len
  simp only [load_right, show Int.ofNat (List.length l) = (l.length : Int) from rfl]
  rw [dec_false (show ¬ (l.length : Int) > 32 by omega), cond_false, show (0 : Int) = ((0 : Nat) : Int) from rfl, this]
  rfl

theorem weighted_lp (l : LoadL) (p : Int) (hlen : l.length ≤ 1000000) (j : Nat) (hj : j < l.length) (hp : (ld l j).1 = p) (hbef : ∀ i, i < j → (ld l i).1 ≠ p) : ∀ (n i : Nat), i + n = j → load_weighted_l0 p l (l.length : Int) (i : Int) = some (.inl (ld l j).2.2)
  | 0, i, hi => by
    have : i = j := by omega
    subst this
    rw [load_weighted_l0_eq]
    simp only [load_weighted_l0_step, dec_true (show (i : Int) < (l.length : Int) by omega), cond_true, inR_t (show (0 : Int) ≤ (i : Int) by omega) (show (i : Int) < ((l.length : Nat) : Int) by omega), Int.toNat_natCast]
    simp only [show l.getD i ((0 : Int), ((0 : Int), (0 : Int))) = ld l i from rfl, beq_t hp, cond_true, lpK_inr]
  | n + 1, i, hi => by
    rw [load_weighted_l0_eq]
    simp only [load_weighted_l0_step, dec_true (show (i : Int) < (l.length : Int) by omega), cond_true, inR_t (show (0 : Int) ≤ (i : Int) by omega) (show (i : Int) < ((l.length : Nat) : Int) by omega), Int.toNat_natCast]
    simp only [show l.getD i ((0 : Int), ((0 : Int), (0 : Int))) = ld l i from rfl, beq_f (hbef i (by omega)), cond_false, lpK_inl]
    rw [w64_in (x := (i : Int) + 1) (by omega) (by omega)]
    exact weighted_lp l p hlen j hj hp hbef n (i + 1) (by omega)

theorem weighted_ok {l : LoadL} (h : OKL l) (j : Nat) (hj : j < l.length) : load_weighted l (ld l j).1 = some (ld l j).2.2 := by
  have hlen := h.len
  have := weighted_lp l (ld l j).1 (by omega) j hj rfl (fun i hi => by
    have := h.lt (j - i - 1) i (by omega)
    rw [show i + (j - i - 1) + 1 = j by omega] at this
    omega) j 0 (by omega)
  simp only [load_weighted, show Int.ofNat (List.length l) = (l.length : Int) from rfl]
  rw [show (0 : Int) = ((0 : Nat) : Int) from rfl, this]
  rfl

/-- The sums of the first loads. -/
def wsum (l : LoadL) : Nat → Nat
  | 0 => 0
  | n + 1 => wsum l n + (ld l n).2.2.toNat
def ssum (l : LoadL) : Nat → Int
  | 0 => 0
  | n + 1 => ssum l n + (ld l n).2.1

theorem sums_le {l : LoadL} (h : OKL l) : ∀ n, n ≤ l.length → (wsum l n : Int) ≤ 259200 * n ∧ 0 ≤ ssum l n ∧ ssum l n ≤ 86400 * n
  | 0, _ => by simp [wsum, ssum]
  | n + 1, hn => by
    have := sums_le h n (by omega)
    have a3 := h.s0 n (by omega); have a4 := h.s1 n (by omega); have a5 := h.w0 n (by omega); have a6 := h.w1 n (by omega)
    simp only [wsum, ssum]
    omega

theorem Sum_lp {l : LoadL} (h : OKL l) (b2 b3 b4 q : Int) : ∀ (n i : Nat), i + n = l.length →
    load_Sum_l0 l (l.length : Int) (i : Int) b2 b3 b4 q (ssum l i) (wsum l i : Int) = some (b2, b3, b4, q, ssum l l.length, (wsum l l.length : Int))
  | 0, i, hi => by
    have : i = l.length := by omega
    subst this
    rw [load_Sum_l0_eq]
    simp only [load_Sum_l0_step, dec_false (show ¬ (l.length : Int) < (l.length : Int) by omega), cond_false, lpK_inr]
  | n + 1, i, hi => by
    have hlen := h.len
    have hs := sums_le h i (by omega)
    have a3 := h.s0 i (by omega); have a4 := h.s1 i (by omega); have a5 := h.w0 i (by omega); have a6 := h.w1 i (by omega)
    rw [load_Sum_l0_eq]
    simp only [load_Sum_l0_step, dec_true (show (i : Int) < (l.length : Int) by omega), cond_true, inR_t (show (0 : Int) ≤ (i : Int) by omega) (show (i : Int) < ((l.length : Nat) : Int) by omega), Int.toNat_natCast]
    simp only [show l.getD i ((0 : Int), ((0 : Int), (0 : Int))) = ld l i from rfl, lpK_inl]
    rw [w64_in (x := (i : Int) + 1) (by omega) (by omega), w64_in (x := ssum l i + (ld l i).2.1) (by omega) (by omega), w64_in (x := (wsum l i : Int) + (ld l i).2.2) (by omega) (by omega)]
    have ih := Sum_lp h b2 b3 b4 q n (i + 1) (by omega)
    simp only [wsum, ssum] at ih
    rw [show (wsum l i : Int) + (ld l i).2.2 = ((wsum l i + (ld l i).2.2.toNat : Nat) : Int) by omega]
    exact ih

theorem Sum_ok {l : LoadL} (h : OKL l) : load_Sum l = some (-1, ssum l l.length, (wsum l l.length : Int)) := by
  have := Sum_lp h 0 0 0 (-1) l.length 0 (by omega)
  simp only [load_Sum, right_ok h, Option.bind_some, Bool.not_true, cond_false, show Int.ofNat (List.length l) = (l.length : Int) from rfl]
  rw [show ((0 : Nat) : Int) = 0 from rfl] at this
  rw [show load_Sum_l0 l (l.length : Int) 0 0 0 0 (-1) 0 0 = _ from this]
  rfl

/-- The denominator of shares. -/
def den1 (l : LoadL) : Nat := max (wsum l l.length) 1

theorem Share_ok {l : LoadL} (h : OKL l) (j : Nat) (hj : j < l.length) :
    load_Share l (ld l j).1 = some ((((rN (ld l j).2.2.toNat (den1 l) : Nat) : Int), ((rD (ld l j).2.2.toNat (den1 l) : Nat) : Int)), 0) := by
  have hlen := h.len
  have hs := sums_le h l.length (by omega)
  have a3 := h.s0 j hj; have a4 := h.s1 j hj; have a5 := h.w0 j hj; have a6 := h.w1 j hj
  simp only [load_Share, right_ok h, Option.bind_some, Bool.not_true, cond_false, weighted_ok h j hj, Sum_ok h]
  have e1 : (if (wsum l l.length : Int) > 1 then (wsum l l.length : Int) else 1) = ((den1 l : Nat) : Int) := by unfold den1; split <;> omega
  have e2 : (ld l j).2.2 = (((ld l j).2.2.toNat : Nat) : Int) := by omega
  have hd : 0 < den1 l ∧ den1 l ≤ 1000000000 := by unfold den1; omega
  rw [e1]
  have hn := ratio_New_ok (ld l j).2.2.toNat (den1 l) (by omega) hd.1 (by omega)
  rw [← e2] at hn
  rw [hn]
  rfl

theorem Shares_lp {l : LoadL} (h : OKL l) : ∀ (n i : Nat), i + n = l.length →
    law17_LoadShares_l0 (l.length : Int) (i : Int) ((rN (wsum l i) (den1 l) : Nat) : Int) ((rD (wsum l i) (den1 l) : Nat) : Int) l =
      some (.inr (((rN (wsum l l.length) (den1 l) : Nat) : Int), ((rD (wsum l l.length) (den1 l) : Nat) : Int), l))
  | 0, i, hi => by
    have : i = l.length := by omega
    subst this
    rw [law17_LoadShares_l0_eq]
    simp only [law17_LoadShares_l0_step, dec_false (show ¬ (l.length : Int) < (l.length : Int) by omega), cond_false, lpK_inr]
  | n + 1, i, hi => by
    have hlen := h.len
    have hi' : i < l.length := by omega
    have hs := sums_le h i (by omega)
    have hsl := sums_le h l.length (by omega)
    have a3 := h.s0 i hi'; have a4 := h.s1 i hi'; have a5 := h.w0 i hi'; have a6 := h.w1 i hi'
    have hd : 0 < den1 l ∧ den1 l ≤ 1000000000 := by unfold den1; omega
    rw [law17_LoadShares_l0_eq]
    simp only [law17_LoadShares_l0_step, dec_true (show (i : Int) < (l.length : Int) by omega), cond_true, inR_t (show (0 : Int) ≤ (i : Int) by omega) (show (i : Int) < ((l.length : Nat) : Int) by omega), Int.toNat_natCast]
    simp only [show l.getD i ((0 : Int), ((0 : Int), (0 : Int))) = ld l i from rfl, Share_ok h i hi', Option.bind_some, r02_Add_ok (wsum l i) (ld l i).2.2.toNat (den1 l) (by omega) (by omega) hd.1 hd.2, bne_self_eq_false, cond_false]
    rw [dec_false (show ¬ ((rN (ld l i).2.2.toNat (den1 l) : Nat) : Int) < 0 by omega), cond_false, lpK_inl, w64_in (x := (i : Int) + 1) (by omega) (by omega)]
    exact Shares_lp h n (i + 1) (by omega)

/-! The dice make such loads. -/

theorem getD_snoc_lt {l : LoadL} {x : Int × (Int × Int)} {i : Nat} (h : i < l.length) : ld (l ++ [x]) i = ld l i := by
  simp [ld, List.getElem?_append_left h]
theorem getD_snoc_eq {l : LoadL} {x : Int × (Int × Int)} : ld (l ++ [x]) l.length = x := by simp [ld]

theorem OKL.snoc {l : LoadL} (h : OKL l) (hl : l.length < 4) {p s w : Int} (hp0 : 0 ≤ p) (hp1 : p ≤ 9) (ha : ∀ i, i < l.length → (ld l i).1 < p) (hs0 : 0 ≤ s) (hs1 : s ≤ 86400) (hw0 : s ≤ w) (hw1 : w ≤ 3 * s) : OKL (l ++ [(p, s, w)]) := by
  have hcase : ∀ i, i < (l ++ [(p, s, w)]).length → (i < l.length ∧ ld (l ++ [(p, s, w)]) i = ld l i) ∨ (i = l.length ∧ ld (l ++ [(p, s, w)]) i = (p, s, w)) := by
    intro i hi
    by_cases h1 : i < l.length
    · exact .inl ⟨h1, getD_snoc_lt h1⟩
    · have : i = l.length := by simp at hi; omega
      subst this
      exact .inr ⟨rfl, getD_snoc_eq⟩
  refine ⟨by simp; omega, ?_, ?_, ?_, ?_, ?_, ?_, ?_⟩
  · intro i hi; rcases hcase i hi with ⟨h1, h2⟩ | ⟨h1, h2⟩ <;> rw [h2]
    · exact h.p0 i h1
    · exact hp0
  · intro i hi; rcases hcase i hi with ⟨h1, h2⟩ | ⟨h1, h2⟩ <;> rw [h2]
    · exact h.p1 i h1
    · exact hp1
  · intro i hi
    rcases hcase (i + 1) hi with ⟨h1, h2⟩ | ⟨h1, h2⟩ <;> rw [h2]
    · rw [getD_snoc_lt (by omega)]; exact h.asc i h1
    · rw [getD_snoc_lt (by omega)]; exact ha i (by omega)
  · intro i hi; rcases hcase i hi with ⟨h1, h2⟩ | ⟨h1, h2⟩ <;> rw [h2]
    · exact h.s0 i h1
    · exact hs0
  · intro i hi; rcases hcase i hi with ⟨h1, h2⟩ | ⟨h1, h2⟩ <;> rw [h2]
    · exact h.s1 i h1
    · exact hs1
  · intro i hi; rcases hcase i hi with ⟨h1, h2⟩ | ⟨h1, h2⟩ <;> rw [h2]
    · exact h.w0 i h1
    · exact hw0
  · intro i hi; rcases hcase i hi with ⟨h1, h2⟩ | ⟨h1, h2⟩ <;> rw [h2]
    · exact h.w1 i h1
    · exact hw1

theorem Loads_lp (L : List Int) : ∀ (n : Nat) (p a : Int) (l : LoadL), DOk L a → OKL l → l.length + n ≤ 4 → 0 ≤ p → p ≤ 2 + 2 * (l.length : Int) → (∀ i, i < l.length → (ld l i).1 < p) →
    ∃ l' a', made_Dice_Loads_l0 p (n : Int) L a l = some (L, a', l') ∧ OKL l' ∧ DOk L a'
  | 0, p, a, l, hd, hl, _, _, _, _ => by
    rw [made_Dice_Loads_l0_eq]
    simp only [made_Dice_Loads_l0_step, dec_false (show ¬ ((0 : Nat) : Int) > 0 by omega), cond_false, lpK_inr]
    exact ⟨_, _, rfl, hl, hd⟩
  | n + 1, p, a, l, hd, hl, hn, hp0, hp1, ha => by
    obtain ⟨s, a1, e1, m1, d1⟩ := Pick_ok hd (xs := [(0 : Int), (1 : Int), (100 : Int), (300 : Int), (86400 : Int), (7 : Int)]) (by simp) (by simp)
    obtain ⟨f, a2, e2, f1, f2, d2⟩ := Next_ok (n := 3) d1 (by omega) (by omega)
    obtain ⟨g, a3, e3, g1, g2, d3⟩ := Next_ok (n := 2) d2 (by omega) (by omega)
    have hs : 0 ≤ s ∧ s ≤ 86400 := by simp at m1; omega
    have hmul : s ≤ s * (1 + f) ∧ s * (1 + f) ≤ 3 * s := by
      obtain rfl | rfl | rfl : f = 0 ∨ f = 1 ∨ f = 2 := by omega
      all_goals omega
    rw [made_Dice_Loads_l0_eq]
    simp only [made_Dice_Loads_l0_step, dec_true (show ((n + 1 : Nat) : Int) > 0 by omega), cond_true, e1, e2, e3, Option.bind_some]
    rw [w64_in (x := 1 + f) (by omega) (by omega), w64_in (x := s * (1 + f)) (by omega) (by omega), w64_in (x := 1 + g) (by omega) (by omega), w64_in (x := p + (1 + g)) (by omega) (by omega),
      w64_in (x := ((n + 1 : Nat) : Int) - 1) (by omega) (by omega)]
    have hlen : (List.length l + List.length [(p, s, s * (1 + f))] ≤ sizeMax) := by simp [sizeMax]; omega
    rw [dec_true hlen, cond_true, lpK_inl]
    have hok := hl.snoc (by omega) hp0 (by omega) ha hs.1 hs.2 hmul.1 hmul.2
    rw [show ((n + 1 : Nat) : Int) - 1 = (n : Int) by omega]
    refine Loads_lp L n (p + (1 + g)) a3 _ d3 hok (by simp; omega) (by omega) (by simp; omega) ?_
    intro i hi
    by_cases h1 : i < l.length
    · rw [getD_snoc_lt h1]; have := ha i h1; omega
    · have : i = l.length := by simp at hi; omega
      subst this
      rw [getD_snoc_eq]; show p < _; omega

theorem Loads_ok {L : List Int} {a : Int} (h : DOk L a) : ∃ l a', made_Dice_Loads L a = some (l, L, a') ∧ OKL l ∧ DOk L a' := by
  obtain ⟨x, a1, e1, x1, x2, d1⟩ := Next_ok (n := 3) h (by omega) (by omega)
  obtain ⟨y, a2, e2, y1, y2, d2⟩ := Next_ok (n := 5) d1 (by omega) (by omega)
  have hnil : OKL [] := ⟨by simp, by simp, by simp, by simp, by simp, by simp, by simp, by simp⟩
  obtain ⟨l, a3, e3, h3, d3⟩ := Loads_lp L y.toNat x a2 [] d2 hnil (by simp; omega) x1 (by simp; omega) (by simp)
  rw [show ((y.toNat : Nat) : Int) = y by omega] at e3
  simp only [made_Dice_Loads, e1, e2, Option.bind_some, e3]
  exact ⟨_, _, rfl, h3, d3⟩

/-! The examples of the chapter. -/

def ex17 : LoadL := [((0 : Int), ((100 : Int), (100 : Int))), ((1 : Int), ((300 : Int), (300 : Int)))]

theorem ex17_ok : OKL ex17 := by
  have hc : ∀ i, i < ex17.length → i = 0 ∨ i = 1 := fun i hi => by simp [ex17] at hi; omega
  refine ⟨by simp [ex17], ?_, ?_, ?_, ?_, ?_, ?_, ?_⟩
  case refine_3 =>
    intro i hi
    have : i = 0 := by
      simp [ex17] at hi; omega
    subst this; decide
  all_goals (intro i hi; rcases hc i hi with rfl | rfl <;> decide)

theorem ex17_w0 : load_weighted ex17 0 = some 100 := weighted_ok ex17_ok 0 (by decide)
theorem ex17_w1 : load_weighted ex17 1 = some 300 := weighted_ok ex17_ok 1 (by decide)

theorem ex17_share : load_Share ex17 0 = some ((1, 4), 0) := by
  have := Share_ok ex17_ok 0 (by decide)
  rw [show (ld ex17 0).1 = 0 from rfl] at this
  rw [this]
  have e1 : rN (ld ex17 0).2.2.toNat (den1 ex17) = 1 := by decide
  have e2 : rD (ld ex17 0).2.2.toNat (den1 ex17) = 4 := by decide
  rw [e1, e2]; rfl

theorem ex17_jain : load_Jain ex17 [(0 : Int), (1 : Int)] = some ((4, 5), 0) := by
  have l1 : load_Jain_l1 ex17 [(0 : Int), (1 : Int)] 0 [(0 : Int), (1 : Int)] 2 0 0 0 = some (ex17, [(0 : Int), (1 : Int)], 400, 0, 0) := by
    rw [load_Jain_l1_eq]
    simp only [load_Jain_l1_step, show List.getD [(0 : Int), (1 : Int)] (Int.toNat 0) 0 = 0 from rfl, ex17_w0, Option.bind_some]
    rw [show lpK _ _ = load_Jain_l1 ex17 [(0 : Int), (1 : Int)] 100 [(0 : Int), (1 : Int)] 2 1 0 0 from rfl, load_Jain_l1_eq]
    simp only [load_Jain_l1_step, show List.getD [(0 : Int), (1 : Int)] (Int.toNat 1) 0 = 1 from rfl, ex17_w1, Option.bind_some]
    rw [show lpK _ _ = load_Jain_l1 ex17 [(0 : Int), (1 : Int)] 400 [(0 : Int), (1 : Int)] 2 2 0 0 from rfl, load_Jain_l1_eq]
    rfl
  have l4 : load_Jain_l4 ex17 [(0 : Int), (1 : Int)] 400 0 [(0 : Int), (1 : Int)] 2 0 0 0 = some ([(0 : Int), (1 : Int)], 400, 100000, 0, 0) := by
    rw [load_Jain_l4_eq]
    simp only [load_Jain_l4_step, show List.getD [(0 : Int), (1 : Int)] (Int.toNat 0) 0 = 0 from rfl, ex17_w0, Option.bind_some]
    rw [show lpK _ _ = load_Jain_l4 ex17 [(0 : Int), (1 : Int)] 400 10000 [(0 : Int), (1 : Int)] 2 1 0 0 from rfl, load_Jain_l4_eq]
    simp only [load_Jain_l4_step, show List.getD [(0 : Int), (1 : Int)] (Int.toNat 1) 0 = 1 from rfl, ex17_w1, Option.bind_some]
    rw [show lpK _ _ = load_Jain_l4 ex17 [(0 : Int), (1 : Int)] 400 100000 [(0 : Int), (1 : Int)] 2 2 0 0 from rfl, load_Jain_l4_eq]
    rfl
  have hn := ratio_New_ok 160000 200000 (by decide) (by decide) (by decide)
  simp only [load_Jain, right_ok ex17_ok, Option.bind_some, Bool.not_true, cond_false, show Int.ofNat (List.length [(0 : Int), (1 : Int)]) = 2 from rfl]
  rw [show decide ((2 : Int) > 32) = false from rfl, cond_false]
  simp only [l1, Option.bind_some]
  rw [show decide ((400 : Int) > 268435456) = false from rfl, cond_false, show ((400 : Int) == 0) = false from rfl, cond_false]
  simp only [show Int.ofNat (List.length [(0 : Int), (1 : Int)]) = 2 from rfl, l4, Option.bind_some, show w64 (400 * 400) = 160000 from rfl, show w64 (2 * 100000) = 200000 from rfl]
  rw [show ratio_New 160000 200000 = _ from hn]
  have e1 : rN 160000 200000 = 4 := by decide
  have e2 : rD 160000 200000 = 5 := by decide
  rw [e1, e2]; rfl

theorem ex17_spread : load_Spread ex17 [(0 : Int), (1 : Int)] = some 200 := by
  have l0 : load_Spread_l0 ex17 100 100 [(0 : Int), (1 : Int)] 2 0 = some (100, 300) := by
    rw [load_Spread_l0_eq]
    simp only [load_Spread_l0_step, show List.getD [(0 : Int), (1 : Int)] (Int.toNat 0) 0 = 0 from rfl, ex17_w0, Option.bind_some]
    rw [show lpK _ _ = load_Spread_l0 ex17 100 100 [(0 : Int), (1 : Int)] 2 1 from rfl, load_Spread_l0_eq]
    simp only [load_Spread_l0_step, show List.getD [(0 : Int), (1 : Int)] (Int.toNat 1) 0 = 1 from rfl, ex17_w1, Option.bind_some]
    rw [show lpK _ _ = load_Spread_l0 ex17 100 300 [(0 : Int), (1 : Int)] 2 2 from rfl, load_Spread_l0_eq]
    rfl
  simp only [load_Spread, right_ok ex17_ok, Option.bind_some, show Int.ofNat (List.length [(0 : Int), (1 : Int)]) = 2 from rfl, show List.getD [(0 : Int), (1 : Int)] 0 0 = 0 from rfl, ex17_w0, l0]
  rfl

theorem sane17 : law17_sane = some true := by
  have hs := Sum_ok ex17_ok
  simp only [law17_sane, show [((0 : Int), ((100 : Int), (100 : Int))), ((1 : Int), ((300 : Int), (300 : Int)))] = ex17 from rfl, ex17_share, ex17_jain, ex17_spread, hs, Option.bind_some]
  rfl

theorem LoadShares_true (t : List Int) (_h : Wf (.list (.int .i64)) t) : law17_LoadShares t = some true := by
  simp only [law17_LoadShares, made_Light, Option.bind_some, show Int.ofNat (List.length t) = (t.length : Int) from rfl]
  by_cases hl : (t.length : Int) ≤ 500
  · rw [dec_true hl]
    simp only [Bool.not_true, cond_false, made_Roll, Option.bind_some]
    obtain ⟨l, a', e, hok, _⟩ := Loads_ok (L := t) (a := 0) ⟨by omega, by omega, by omega⟩
    simp only [e, Option.bind_some, show Int.ofNat (List.length l) = (l.length : Int) from rfl]
    have hlp := Shares_lp hok l.length 0 (by omega)
    have hlen := hok.len
    have hs := sums_le hok l.length (by omega)
    have hd : 0 < den1 l := by unfold den1; omega
    have i1 : rN (wsum l 0) (den1 l) = 0 := by show 0 / _ = 0; simp
    have i2 : rD (wsum l 0) (den1 l) = 1 := by
      show den1 l / Nat.gcd 0 (den1 l) = 1
      rw [Nat.gcd_zero_left, Nat.div_self hd]
    rw [i1, i2] at hlp
    rw [show law17_LoadShares_l0 (l.length : Int) 0 0 1 l = _ from hlp]
    simp only [Option.bind_some, sumC_inr, Sum_ok hok, sane17]
    by_cases hw : wsum l l.length = 0
    · rw [hw] at *
      have i3 : rN 0 (den1 l) = 0 := by show 0 / _ = 0; simp
      have i4 : rD 0 (den1 l) = 1 := by
        show den1 l / Nat.gcd 0 (den1 l) = 1
        rw [Nat.gcd_zero_left, Nat.div_self hd]
      rw [i3, i4]; rfl
    · have hde : den1 l = wsum l l.length := by unfold den1; omega
      rw [beq_f (show ((wsum l l.length : Nat) : Int) ≠ 0 by omega), hde]
      have i3 : rN (wsum l l.length) (wsum l l.length) = 1 := by
        unfold rN; rw [Nat.gcd_self, Nat.div_self (by omega)]
      have i4 : rD (wsum l l.length) (wsum l l.length) = 1 := by
        unfold rD; rw [Nat.gcd_self, Nat.div_self (by omega)]
      rw [i3, i4]; rfl
  · rw [dec_false hl]
    simp only [Bool.not_false, cond_true, sane17, Option.bind_some]
end Go.Proofs.Pw
