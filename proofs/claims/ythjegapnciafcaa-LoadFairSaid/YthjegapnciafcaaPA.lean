/- Small facts on Go's division. -/
import Derived.Test.YthjegapnciafcaaLD
import Derived.Test.YthjegapnciafcaaFns
open Go Go.Lft
namespace Go.Proofs.Pw

theorem tdm (a b : Int) (hb : 0 < b) : b * Int.tdiv a b + Int.tmod a b = a ∧ (0 ≤ a → 0 ≤ Int.tmod a b) ∧ (a ≤ 0 → Int.tmod a b ≤ 0) ∧ Int.tmod a b < b ∧ -b < Int.tmod a b := by
  have h1 := Int.mul_tdiv_add_tmod a b
  have h2 : 0 ≤ a → 0 ≤ Int.tmod a b := fun h => Int.tmod_nonneg b h
  have h3 : a ≤ 0 → Int.tmod a b ≤ 0 := fun h => by
    have := Int.tmod_nonneg (a := -a) b (by omega)
    rw [Int.neg_tmod] at this; omega
  have h4 := Int.tmod_lt_of_pos a hb
  have h5 : -b < Int.tmod a b := by
    have := Int.tmod_lt_of_pos (-a) hb
    rw [Int.neg_tmod] at this; omega
  exact ⟨h1, h2, h3, h4, h5⟩

theorem tdiv_nn {a b : Int} (ha : 0 ≤ a) : Int.tdiv a b = a / b := Int.tdiv_eq_ediv_of_nonneg ha
theorem tmod_nn {a b : Int} (ha : 0 ≤ a) : Int.tmod a b = a % b := Int.tmod_eq_emod_of_nonneg ha

/-- A remainder is zero in either sense alike. -/
theorem tmod_zero (a b : Int) : (Int.tmod a b == 0) = (a % b == 0) := by
  rw [Bool.eq_iff_iff]
  simp only [beq_iff_eq]
  rw [← Int.dvd_iff_tmod_eq_zero, ← Int.dvd_iff_emod_eq_zero]

theorem dec_true {p : Prop} [Decidable p] (h : p) : decide p = true := decide_eq_true h
theorem dec_false {p : Prop} [Decidable p] (h : ¬ p) : decide p = false := decide_eq_false h
theorem beq_t {a b : Int} (h : a = b) : (a == b) = true := by simp [h]
theorem beq_f {a b : Int} (h : a ≠ b) : (a == b) = false := by simp [h]
theorem inR_t {i : Int} {n : Nat} (h1 : 0 ≤ i) (h2 : i < n) : inR i n = true := by simp [inR, h1, h2]
end Go.Proofs.Pw

/- The dice of package pagewatchmade. -/
open Go Go.Lft
namespace Go.Proofs.Pw

/-- Dice that are right: the place lies in the list. -/
def DOk (l : List Int) (a : Int) : Prop := 0 ≤ a ∧ a ≤ (l.length : Int) ∧ l.length ≤ 1000000

theorem Next_ok {l : List Int} {a n : Int} (h : DOk l a) (hn : 1 ≤ n) (hn2 : n ≤ 1000000000000) : ∃ x a', made_Dice_Next l a n = some (x, l, a') ∧ 0 ≤ x ∧ x < n ∧ DOk l a' := by
  obtain ⟨h1, h2, h3⟩ := h
  simp only [made_Dice_Next, show Int.ofNat (List.length l) = (l.length : Int) from rfl]
  by_cases ha : a ≥ (l.length : Int)
  · rw [dec_true ha, cond_true]
    exact ⟨0, a, rfl, by omega, by omega, h1, h2, h3⟩
  · rw [dec_false ha, cond_false, dec_false (show ¬ n < 1 by omega), cond_false, inR_t h1 (by omega), cond_true, beq_f (show n ≠ 0 by omega)]
    obtain ⟨e, p1, p2, p3, p4⟩ := tdm (l.getD a.toNat 0) n (by omega)
    rw [w64_in (x := a + 1) (by omega) (by omega)]
    simp only [Bool.not_false, cond_true]
    by_cases ht : Int.tmod (l.getD a.toNat 0) n < 0
    · rw [dec_true ht, cond_true, w64_in (by omega) (by omega)]
      exact ⟨_, _, rfl, by omega, by omega, by omega, by omega, h3⟩
    · rw [dec_false ht, cond_false]
      exact ⟨_, _, rfl, by omega, by omega, by omega, by omega, h3⟩

theorem Pick_ok {l : List Int} {a : Int} (h : DOk l a) {xs : List Int} (hx0 : 0 < xs.length) (hx1 : xs.length ≤ 1000000) : ∃ x a', made_Dice_Pick l a xs = some (x, l, a') ∧ x ∈ xs ∧ DOk l a' := by
  obtain ⟨x, a', e, h1, h2, h3⟩ := Next_ok (n := (xs.length : Int)) h (by omega) (by omega)
  simp only [made_Dice_Pick, show Int.ofNat (List.length xs) = (xs.length : Int) from rfl, e, Option.bind_some]
  rw [inR_t h1 (by omega), cond_true]
  have hlt : x.toNat < xs.length := by omega
  refine ⟨_, _, rfl, ?_, h3⟩
  rw [List.getD_eq_getElem?_getD, List.getElem?_eq_getElem hlt]
  exact List.getElem_mem hlt
end Go.Proofs.Pw

/- Fractions in lowest terms. -/
open Go Go.Lft
namespace Go.Proofs.Pw

theorem r02_gcd_lp : ∀ (k m : Nat), r02_gcd_l0 (m : Int) (k : Int) = some ((Nat.gcd m k : Nat) : Int) := by
  intro k
  induction k using Nat.strongRecOn with
  | _ k ih =>
    intro m
    rw [r02_gcd_l0_eq]
    by_cases hk : k = 0
    · subst hk
      simp [r02_gcd_l0_step, lpK]
    · have h0 : ((k : Int) == 0) = false := beq_f (by omega)
      have h1 : ((k : Int) != 0) = true := by simp [bne, h0]
      simp only [r02_gcd_l0_step, h0, h1, cond_true, Bool.not_false, lpK_inl]
      rw [tmod_nn (by omega), ← Int.natCast_emod, ih (m % k) (Nat.mod_lt _ (by omega)) k]
      congr 2
      rw [Nat.gcd_comm k, ← Nat.gcd_rec, Nat.gcd_comm]

theorem ratio_gcd_lp : ∀ (k m : Nat), ratio_gcd_l0 (m : Int) (k : Int) = some ((Nat.gcd m k : Nat) : Int) := by
  intro k
  induction k using Nat.strongRecOn with
  | _ k ih =>
    intro m
    rw [ratio_gcd_l0_eq]
    by_cases hk : k = 0
    · subst hk
      simp [ratio_gcd_l0_step, lpK]
    · have h0 : ((k : Int) == 0) = false := beq_f (by omega)
      have h1 : ((k : Int) != 0) = true := by simp [bne, h0]
      simp only [ratio_gcd_l0_step, h0, h1, cond_true, Bool.not_false, lpK_inl]
      rw [tmod_nn (by omega), ← Int.natCast_emod, ih (m % k) (Nat.mod_lt _ (by omega)) k]
      congr 2
      rw [Nat.gcd_comm k, ← Nat.gcd_rec, Nat.gcd_comm]

def rN (n d : Nat) : Nat := n / Nat.gcd n d
def rD (n d : Nat) : Nat := d / Nat.gcd n d

theorem rN_mul (n d : Nat) : rN n d * Nat.gcd n d = n := Nat.div_mul_cancel (Nat.gcd_dvd_left n d)
theorem rD_mul (n d : Nat) : rD n d * Nat.gcd n d = d := Nat.div_mul_cancel (Nat.gcd_dvd_right n d)
theorem rN_le (n d : Nat) : rN n d ≤ n := Nat.div_le_self _ _
theorem rD_le (n d : Nat) : rD n d ≤ d := Nat.div_le_self _ _
theorem rD_pos {n d : Nat} (hd : 0 < d) : 0 < rD n d := by
  have := rD_mul n d
  rcases Nat.eq_zero_or_pos (rD n d) with h | h
  · rw [h] at this; omega
  · exact h
theorem r_cross (n d : Nat) : rN n d * d = n * rD n d := by
  have h1 := rN_mul n d
  have h2 := rD_mul n d
  calc rN n d * d = rN n d * (rD n d * Nat.gcd n d) := by rw [h2]
    _ = (rN n d * Nat.gcd n d) * rD n d := by rw [Nat.mul_comm (rD n d), Nat.mul_assoc]
    _ = n * rD n d := by rw [h1]

theorem r_cop {n d : Nat} (hd : 0 < d) : Nat.gcd (rN n d) (rD n d) = 1 := by
  have hg : 0 < Nat.gcd n d := Nat.gcd_pos_of_pos_right n hd
  unfold rN rD
  rw [Nat.gcd_div (Nat.gcd_dvd_left n d) (Nat.gcd_dvd_right n d), Nat.div_self hg]

/-- Equal fractions have one lowest form. -/
theorem r_eq {n d N D : Nat} (hd : 0 < d) (hD : 0 < D) (h : n * D = N * d) : rN n d = rN N D ∧ rD n d = rD N D := by
  have hg : 0 < Nat.gcd n d := Nat.gcd_pos_of_pos_right n hd
  have hG : 0 < Nat.gcd N D := Nat.gcd_pos_of_pos_right N hD
  have hk : Nat.gcd n d * D = Nat.gcd N D * d := by
    rw [← Nat.gcd_mul_right, h, Nat.mul_comm d D, Nat.gcd_mul_right]
  have e1 := rD_mul n d
  have e2 := rD_mul N D
  have f1 := rN_mul n d
  have f2 := rN_mul N D
  generalize Nat.gcd n d = g at *
  generalize Nat.gcd N D = G at *
  have hDd : rD n d = rD N D := by
    have : (g * G) * rD N D = (g * G) * rD n d := by
      rw [Nat.mul_assoc, Nat.mul_comm G, e2, hk, Nat.mul_comm g G, Nat.mul_assoc, Nat.mul_comm g, e1]
    exact (Nat.eq_of_mul_eq_mul_left (Nat.mul_pos hg hG) this).symm
  refine ⟨?_, hDd⟩
  have : (g * D) * rN n d = (g * D) * rN N D := by
    calc (g * D) * rN n d = (rN n d * g) * D := by rw [Nat.mul_comm (g * D), Nat.mul_assoc]
      _ = N * d := by rw [f1, h]
      _ = (rN N D * G) * d := by rw [f2]
      _ = rN N D * (G * d) := by rw [Nat.mul_assoc]
      _ = rN N D * (g * D) := by rw [hk]
      _ = (g * D) * rN N D := by rw [Nat.mul_comm]
  exact Nat.eq_of_mul_eq_mul_left (Nat.mul_pos hg hD) this

theorem r02_New_ok (n d : Nat) (hn : n ≤ 4611686018427387904) (hd : 0 < d) (hd2 : d ≤ 4611686018427387904) : r02_New (n : Int) (d : Int) = some ((((rN n d : Nat) : Int), ((rD n d : Nat) : Int)), 0) := by
  have hg : 0 < Nat.gcd n d := Nat.gcd_pos_of_pos_right n hd
  have h1 := rN_le n d
  have h2 := rD_le n d
  simp only [r02_New, r02_in, r02_size, r02_gcd]
  rw [dec_true (show (n : Int) ≥ -4611686018427387904 by omega), dec_true (show (n : Int) ≤ 4611686018427387904 by omega), dec_false (show ¬ (d : Int) < 1 by omega), dec_false (show ¬ (d : Int) > 4611686018427387904 by omega), dec_false (show ¬ (n : Int) < 0 by omega)]
  simp only [cond_true, cond_false, Option.bind_some, Bool.not_true, r02_gcd_lp]
  rw [beq_f (show ((Nat.gcd n d : Nat) : Int) ≠ 0 by omega), tdiv_nn (by omega), tdiv_nn (by omega), ← Int.natCast_ediv, ← Int.natCast_ediv]
  simp only [Bool.not_false, cond_true]
  show some ((w64 ((rN n d : Nat) : Int), w64 ((rD n d : Nat) : Int)), (0 : Int)) = _
  rw [w64_in (by omega) (by omega), w64_in (by omega) (by omega)]

theorem ratio_New_ok (n d : Nat) (hn : n ≤ 4611686018427387904) (hd : 0 < d) (hd2 : d ≤ 4611686018427387904) : ratio_New (n : Int) (d : Int) = some ((((rN n d : Nat) : Int), ((rD n d : Nat) : Int)), 0) := by
  have hg : 0 < Nat.gcd n d := Nat.gcd_pos_of_pos_right n hd
  have h1 := rN_le n d
  have h2 := rD_le n d
  simp only [ratio_New, ratio_within, ratio_size, ratio_gcd]
  rw [dec_true (show (n : Int) ≥ -4611686018427387904 by omega), dec_true (show (n : Int) ≤ 4611686018427387904 by omega), dec_false (show ¬ (d : Int) < 1 by omega), dec_false (show ¬ (d : Int) > 4611686018427387904 by omega), dec_false (show ¬ (n : Int) < 0 by omega)]
  simp only [cond_true, cond_false, Option.bind_some, Bool.not_true, ratio_gcd_lp]
  rw [beq_f (show ((Nat.gcd n d : Nat) : Int) ≠ 0 by omega), tdiv_nn (by omega), tdiv_nn (by omega), ← Int.natCast_ediv, ← Int.natCast_ediv]
  simp only [Bool.not_false, cond_true]
  show some ((w64 ((rN n d : Nat) : Int), w64 ((rD n d : Nat) : Int)), (0 : Int)) = _
  rw [w64_in (by omega) (by omega), w64_in (by omega) (by omega)]

theorem r02_Valid_ok (n d : Nat) (hn : n ≤ 4611686018427387904) (hd : 0 < d) (hd2 : d ≤ 4611686018427387904) (hc : Nat.gcd n d = 1) : r02_Valid ((n : Int), (d : Int)) = some true := by
  simp only [r02_Valid, r02_in, r02_size, r02_gcd]
  rw [dec_true (show (n : Int) ≥ -4611686018427387904 by omega), dec_true (show (n : Int) ≤ 4611686018427387904 by omega), dec_true (show (d : Int) ≥ 1 by omega), dec_true (show (d : Int) ≤ 4611686018427387904 by omega), dec_false (show ¬ (n : Int) < 0 by omega)]
  simp only [cond_true, cond_false, Option.bind_some, r02_gcd_lp, hc]
  rfl

theorem r02_product_ok (a b : Nat) (ha : a ≤ 1000000000) (hb : b ≤ 1000000000) : r02_product (a : Int) (b : Int) = some (((a * b : Nat) : Int), true) := by
  simp only [r02_product, r02_size]
  by_cases h0 : a = 0
  · subst h0; simp
  · by_cases h1 : b = 0
    · subst h1; simp
    · rw [beq_f (show (a : Int) ≠ 0 by omega), beq_f (show (b : Int) ≠ 0 by omega), dec_false (show ¬ (a : Int) < 0 by omega), dec_false (show ¬ (b : Int) < 0 by omega)]
      simp only [cond_false, Option.bind_some, beq_f (show (b : Int) ≠ 0 by omega), Bool.not_false, cond_true]
      rw [tdiv_nn (by omega)]
      have h2 : (1000000000 : Int) ≤ 4611686018427387904 / (b : Int) := by
        rw [Int.le_ediv_iff_mul_le (by omega)]; omega
      have h3 : 4611686018427387904 / (b : Int) ≤ 4611686018427387904 := Int.ediv_le_self _ (by omega)
      have hm : a * b ≤ 1000000000 * 1000000000 := Nat.mul_le_mul ha hb
      rw [w64_in (x := 4611686018427387904 / (b : Int)) (by omega) (by omega), dec_false (by omega), cond_false, ← Int.natCast_mul, w64_in (by omega) (by omega)]

/-- Fractions of one denominator added. -/
theorem r02_Add_ok (a b D : Nat) (ha : a ≤ 1000000000) (hb : b ≤ 1000000000) (hD : 0 < D) (hD2 : D ≤ 1000000000) :
    r02_Add (((rN a D : Nat) : Int), ((rD a D : Nat) : Int)) (((rN b D : Nat) : Int), ((rD b D : Nat) : Int)) = some ((((rN (a + b) D : Nat) : Int), ((rD (a + b) D : Nat) : Int)), 0) := by
  have ca := r_cross a D
  have cb := r_cross b D
  have cop1 := r_cop (n := a) hD
  have cop2 := r_cop (n := b) hD
  have l1 := rN_le a D; have l2 := rN_le b D; have l3 := rD_le a D; have l4 := rD_le b D
  have p1 := rD_pos (n := a) hD
  have p2 := rD_pos (n := b) hD
  generalize rN a D = p at *
  generalize rD a D = q at *
  generalize rN b D = r at *
  generalize rD b D = s at *
  have hg : 0 < Nat.gcd q s := Nat.gcd_pos_of_pos_right q p2
  have v1 := r02_Valid_ok p q (by omega) p1 (by omega) cop1
  have v2 := r02_Valid_ok r s (by omega) p2 (by omega) cop2
  have d1 : s / Nat.gcd q s ≤ s := Nat.div_le_self _ _
  have d2 : q / Nat.gcd q s ≤ q := Nat.div_le_self _ _
  have hs : s / Nat.gcd q s * Nat.gcd q s = s := Nat.div_mul_cancel (Nat.gcd_dvd_right q s)
  have hq : q / Nat.gcd q s * Nat.gcd q s = q := Nat.div_mul_cancel (Nat.gcd_dvd_left q s)
  simp only [r02_Add, v1, v2, Option.bind_some, Bool.not_true, cond_false, r02_gcd, r02_gcd_lp]
  rw [beq_f (show ((Nat.gcd q s : Nat) : Int) ≠ 0 by omega)]
  rw [tdiv_nn (by omega), tdiv_nn (by omega), ← Int.natCast_ediv, ← Int.natCast_ediv]
  generalize Nat.gcd q s = g at *
  generalize hs' : s / g = s' at *
  generalize hq' : q / g = q' at *
  simp only [Bool.not_false, cond_true]
  rw [w64_in (x := (s' : Int)) (by omega) (by omega), w64_in (x := (q' : Int)) (by omega) (by omega)]
  simp only [r02_product_ok p s' (by omega) (by omega), r02_product_ok r q' (by omega) (by omega), r02_product_ok q' s (by omega) (by omega), Option.bind_some]
  have b1 : p * s' ≤ 1000000000 * 1000000000 := Nat.mul_le_mul (by omega) (by omega)
  have b2 : r * q' ≤ 1000000000 * 1000000000 := Nat.mul_le_mul (by omega) (by omega)
  have b3 : q' * s ≤ 1000000000 * 1000000000 := Nat.mul_le_mul (by omega) (by omega)
  have q'pos : 0 < q' := by
    rcases Nat.eq_zero_or_pos q' with h | h
    · rw [h] at hq; omega
    · exact h
  have b4 : 0 < q' * s := Nat.mul_pos q'pos p2
  have key : (p * s' + r * q') * D = (a + b) * (q' * s) := by
    have e1 : q' * s = q * s' := by rw [← hs, ← hq, Nat.mul_comm s' g, ← Nat.mul_assoc]
    have x1 : p * s' * D = a * (q' * s) := by
      rw [e1, Nat.mul_assoc, Nat.mul_comm s' D, ← Nat.mul_assoc, ca, Nat.mul_assoc]
    have x2 : r * q' * D = b * (q' * s) := by
      rw [Nat.mul_assoc, Nat.mul_comm q' D, ← Nat.mul_assoc, cb, Nat.mul_assoc, Nat.mul_comm s q']
    rw [Nat.add_mul, Nat.add_mul, x1, x2]
  have hr := r_eq b4 hD key
  generalize p * s' = x at *
  generalize r * q' = y at *
  generalize q' * s = d at *
  rw [w64_in (x := 4611686018427387904 - (x : Int)) (by omega) (by omega), w64_in (x := -4611686018427387904 - (x : Int)) (by omega) (by omega), w64_in (x := (x : Int) + (y : Int)) (by omega) (by omega)]
  rw [dec_false (show ¬ (y : Int) > 4611686018427387904 - (x : Int) by omega), dec_false (show ¬ (x : Int) < 0 by omega), ← Int.natCast_add, r02_New_ok (x + y) d (by omega) b4 (by omega), hr.1, hr.2]
  cases decide ((x : Int) > 0) <;> rfl
end Go.Proofs.Pw
