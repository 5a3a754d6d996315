/- Chapter 17: the index of fairness. -/
import Derived.Test.YthjegapnciafcaaPB
open Go Go.Lft
namespace Go.Proofs.Pw

/-! Fractions compared. -/

theorem div_lt_cross {a b c d : Nat} (hb : 0 < b) (h : a / b < c / d) : a * d < c * b := by
  have h1 : a < b * (a / b + 1) := Nat.lt_mul_div_succ a hb
  have hd : 0 < d := by
    rcases Nat.eq_zero_or_pos d with h0 | h0
    · rw [h0] at h; simp at h
    · exact h0
  have h2 : a * d < b * (a / b + 1) * d := Nat.mul_lt_mul_of_pos_right h1 hd
  have h3 : b * (a / b + 1) * d ≤ b * (c / d) * d := Nat.mul_le_mul_right d (Nat.mul_le_mul_left b h)
  have h4 : b * (c / d) * d ≤ b * c := by
    rw [Nat.mul_assoc]
    exact Nat.mul_le_mul_left b (Nat.div_mul_le_self c d)
  rw [Nat.mul_comm c b]
  omega

theorem less_iter : ∀ (n : Nat) (a b c d : Nat), 0 < b → 0 < d → a ≤ 4611686018427387904 → b ≤ 4611686018427387904 → c ≤ 4611686018427387904 → d ≤ 4611686018427387904 →
    (∀ y, iterN r02_less_rec n ((a : Int), (b : Int), (c : Int), (d : Int)) = some y → y = decide (a * d < c * b)) ∧ (b + d < n → iterN r02_less_rec n ((a : Int), (b : Int), (c : Int), (d : Int)) = some (decide (a * d < c * b)))
  | 0, _, _, _, _, _, _, _, _, _, _ => ⟨fun y h => by simp [iterN] at h, fun h => by omega⟩
  | n + 1, a, b, c, d, hb, hd, ba, bb, bc, bd => by
    have hb0 : ((b : Int) == 0) = false := beq_f (by omega)
    have hd0 : ((d : Int) == 0) = false := beq_f (by omega)
    have q1 : a / b ≤ a := Nat.div_le_self _ _
    have q2 : c / d ≤ c := Nat.div_le_self _ _
    have e1 : a = b * (a / b) + a % b := (Nat.div_add_mod a b).symm
    have e2 : c = d * (c / d) + c % d := (Nat.div_add_mod c d).symm
    have m1 : a % b < b := Nat.mod_lt _ hb
    have m2 : c % d < d := Nat.mod_lt _ hd
    have step : iterN r02_less_rec (n + 1) ((a : Int), (b : Int), (c : Int), (d : Int)) = if a / b ≠ c / d then some (decide (a / b < c / d)) else if c % d = 0 then some false else if a % b = 0 then some true else
        (iterN r02_less_rec n ((d : Int), ((c % d : Nat) : Int), (b : Int), ((a % b : Nat) : Int))).bind fun r => some r := by
      simp only [iterN, r02_less_rec, r02_less_body, hb0, hd0, Bool.not_false, cond_true]
      rw [tdiv_nn (by omega), tdiv_nn (by omega), tmod_nn (by omega), tmod_nn (by omega), ← Int.natCast_ediv, ← Int.natCast_ediv, ← Int.natCast_emod, ← Int.natCast_emod]
      generalize a / b = x at *
      generalize c / d = y at *
      generalize a % b = u at *
      generalize c % d = v at *
      rw [w64_in (x := (x : Int)) (by omega) (by omega), w64_in (x := (y : Int)) (by omega) (by omega)]
      by_cases hxy : x = y
      · subst hxy
        simp only [bne_self_eq_false, cond_false, ne_eq, not_true_eq_false, if_false]
        by_cases hv : v = 0
        · subst hv; simp
        · rw [beq_f (show (v : Int) ≠ 0 by omega), if_neg hv]
          by_cases hu : u = 0
          · subst hu; simp
          · rw [beq_f (show (u : Int) ≠ 0 by omega), if_neg hu]; rfl
      · have hne : ((x : Int) != (y : Int)) = true := by simp only [bne_iff_ne, ne_eq]; omega
        rw [hne, if_pos hxy]
        simp only [cond_true]
        congr 1
        by_cases h : x < y
        · rw [decide_eq_true h, decide_eq_true (by omega)]
        · rw [decide_eq_false h, decide_eq_false (by omega)]
    have spec : a / b = c / d → (a * d < c * b ↔ (a % b) * d < (c % d) * b) := by
      intro hq
      have x1 : a * d = b * d * (a / b) + (a % b) * d := by
        conv => lhs; rw [e1]
        rw [Nat.add_mul, Nat.mul_assoc, Nat.mul_comm (a / b) d, ← Nat.mul_assoc]
      have x2 : c * b = b * d * (a / b) + (c % d) * b := by
        conv => lhs; rw [e2]
        rw [Nat.add_mul, ← hq, Nat.mul_assoc, Nat.mul_comm (a / b) b, ← Nat.mul_assoc, Nat.mul_comm d b]
      omega
    rw [step]
    by_cases hq : a / b = c / d
    · rw [if_neg (by simp [hq])]
      by_cases hv : c % d = 0
      · have : decide (a * d < c * b) = false := decide_eq_false (by rw [spec hq, hv]; simp)
        rw [if_pos hv, this]
        exact ⟨fun y hy => by simpa using hy.symm, fun _ => rfl⟩
      · rw [if_neg hv]
        by_cases hu : a % b = 0
        · have : decide (a * d < c * b) = true := decide_eq_true (by rw [spec hq, hu, Nat.zero_mul]; exact Nat.mul_pos (by omega) hb)
          rw [if_pos hu, this]
          exact ⟨fun y hy => by simpa using hy.symm, fun _ => rfl⟩
        · rw [if_neg hu]
          obtain ⟨i1, i2⟩ := less_iter n d (c % d) b (a % b) (by omega) (by omega) bd (by omega) bb (by omega)
          have hs : decide (d * (a % b) < b * (c % d)) = decide (a * d < c * b) := by
            rw [decide_eq_decide, spec hq, Nat.mul_comm d, Nat.mul_comm b]
          refine ⟨fun y hy => ?_, fun hn => ?_⟩
          · cases hi : iterN r02_less_rec n ((d : Int), ((c % d : Nat) : Int), (b : Int), ((a % b : Nat) : Int)) with
            | none => rw [hi] at hy; simp at hy
            | some z =>
              rw [hi] at hy
              simp at hy
              rw [← hy, i1 z hi, hs]
          · rw [i2 (by omega), Option.bind_some, hs]
    · rw [if_pos hq]
      have hs : decide (a / b < c / d) = decide (a * d < c * b) := by
        rw [decide_eq_decide]
        refine ⟨div_lt_cross hb, fun h => ?_⟩
        rcases Nat.lt_trichotomy (a / b) (c / d) with h' | h' | h'
        · exact h'
        · exact absurd h' hq
        · have := div_lt_cross hd h'; omega
      rw [hs]
      exact ⟨fun y hy => by simpa using hy.symm, fun _ => rfl⟩

theorem r02_less_ok (a b c d : Nat) (hb : 0 < b) (hd : 0 < d) (ba : a ≤ 4611686018427387904) (bb : b ≤ 4611686018427387904) (bc : c ≤ 4611686018427387904) (bd : d ≤ 4611686018427387904) :
    r02_less (a : Int) (b : Int) (c : Int) (d : Int) = some (decide (a * d < c * b)) :=
  recOpt_of ⟨b + d + 1, (less_iter _ a b c d hb hd ba bb bc bd).2 (by omega)⟩ (fun n y h => (less_iter n a b c d hb hd ba bb bc bd).1 y h)

theorem r02_Less_ok (a b c d : Nat) (hb : 0 < b) (hd : 0 < d) (ba : a ≤ 4611686018427387904) (bb : b ≤ 4611686018427387904) (bc : c ≤ 4611686018427387904) (bd : d ≤ 4611686018427387904) (h1 : Nat.gcd a b = 1) (h2 : Nat.gcd c d = 1) :
    r02_Less ((a : Int), (b : Int)) ((c : Int), (d : Int)) = some (decide (a * d < c * b)) := by
  simp only [r02_Less, r02_Valid_ok a b ba hb bb h1, r02_Valid_ok c d bc hd bd h2, Option.bind_some, Bool.not_true, cond_false]
  rw [dec_false (show ¬ (a : Int) < 0 by omega), dec_false (show ¬ (c : Int) < 0 by omega)]
  simp only [cond_false, r02_less_ok a b c d hb hd ba bb bc bd, Option.bind_some]

/-! Sums and squares. -/

def ssm : List Nat → Nat
  | [] => 0
  | x :: xs => x + ssm xs
def ssq : List Nat → Nat
  | [] => 0
  | x :: xs => x * x + ssq xs
def dsq (x : Int) : List Nat → Int
  | [] => 0
  | y :: ys => ((y : Int) - x) * ((y : Int) - x) + dsq x ys

theorem dsq_eq (x : Int) : ∀ l : List Nat, dsq x l = (ssq l : Int) - 2 * x * (ssm l : Int) + (l.length : Int) * (x * x)
  | [] => by simp [dsq, ssq, ssm]
  | y :: ys => by
    have ih := dsq_eq x ys
    simp only [dsq, ssq, ssm, List.length_cons, ih]
    push_cast
    grind
theorem sq_nonneg (x : Int) : 0 ≤ x * x := by
  rcases Int.le_total 0 x with h | h
  · exact Int.mul_nonneg h h
  · have := Int.mul_nonneg (show 0 ≤ -x by omega) (show 0 ≤ -x by omega)
    rwa [Int.neg_mul_neg] at this
theorem dsq_nonneg (x : Int) : ∀ l : List Nat, 0 ≤ dsq x l
  | [] => Int.le_refl _
  | y :: ys => by
    have h1 := sq_nonneg ((y : Int) - x)
    have h2 := dsq_nonneg x ys
    simp only [dsq]; omega
theorem sq_zero {x : Int} (h : x * x = 0) : x = 0 := by
  rcases Int.mul_eq_zero.1 h with h | h <;> exact h
theorem dsq_zero {x : Int} : ∀ {l : List Nat}, dsq x l = 0 → ∀ y ∈ l, (y : Int) = x
  | [], _, _, hy => by simp at hy
  | z :: zs, h, y, hy => by
    have h1 := sq_nonneg ((z : Int) - x)
    have h2 := dsq_nonneg x zs
    simp only [dsq] at h
    rcases List.mem_cons.1 hy with rfl | hy
    · have := sq_zero (x := (y : Int) - x) (by omega); omega
    · exact dsq_zero (by omega) y hy
theorem dsq_same {x : Int} : ∀ {l : List Nat}, (∀ y ∈ l, (y : Int) = x) → dsq x l = 0
  | [], _ => rfl
  | z :: zs, h => by
    have h1 := h z (by simp)
    have h2 := dsq_same (l := zs) fun y hy => h y (by simp [hy])
    simp only [dsq, h2, h1]; simp
/-- How far the square of the sum lies below. -/
def vari (l : List Nat) : Int := (l.length : Int) * (ssq l : Int) - (ssm l : Int) * (ssm l : Int)
theorem vari_cons (x : Nat) (l : List Nat) : vari (x :: l) = vari l + dsq (x : Int) l := by
  rw [dsq_eq]
  simp only [vari, ssq, ssm, List.length_cons]
  push_cast
  grind
theorem vari_nonneg : ∀ l : List Nat, 0 ≤ vari l
  | [] => by simp [vari, ssq, ssm]
  | x :: l => by
    rw [vari_cons]
    have := vari_nonneg l
    have := dsq_nonneg (x : Int) l
    omega
theorem vari_same {x : Nat} : ∀ {l : List Nat}, (∀ y ∈ l, y = x) → vari l = 0
  | [], _ => by simp [vari, ssq, ssm]
  | z :: zs, h => by
    rw [vari_cons, vari_same (l := zs) fun y hy => h y (by simp [hy]), dsq_same fun y hy => by rw [h y (by simp [hy]), h z (by simp)]]
    rfl
theorem vari_zero {x : Nat} {l : List Nat} (h : vari (x :: l) = 0) : ∀ y ∈ l, y = x := by
  rw [vari_cons] at h
  have h1 := vari_nonneg l
  have h2 := dsq_nonneg (x : Int) l
  intro y hy
  have := dsq_zero (x := (x : Int)) (l := l) (by omega) y hy
  omega
theorem ssq_le_sq : ∀ l : List Nat, ssq l ≤ ssm l * ssm l
  | [] => Nat.le_refl _
  | x :: l => by
    have ih := ssq_le_sq l
    simp only [ssq, ssm]
    have : (x + ssm l) * (x + ssm l) = x * x + 2 * (x * ssm l) + ssm l * ssm l := by grind
    omega
theorem ssm_le {M : Nat} : ∀ {l : List Nat}, (∀ y ∈ l, y ≤ M) → ssm l ≤ M * l.length
  | [], _ => by simp [ssm]
  | x :: l, h => by
    have := h x (by simp)
    have := ssm_le (l := l) fun y hy => h y (by simp [hy])
    simp only [ssm, List.length_cons, Nat.mul_add]; omega
theorem ssm_zero : ∀ {l : List Nat}, ssm l = 0 → ∀ y ∈ l, y = 0
  | [], _, _, hy => by simp at hy
  | x :: l, h, y, hy => by
    simp only [ssm] at h
    rcases List.mem_cons.1 hy with rfl | hy
    · omega
    · exact ssm_zero (l := l) (by omega) y hy
theorem ssq_pos : ∀ {l : List Nat}, 0 < ssm l → 0 < ssq l
  | [], h => by simp [ssm] at h
  | x :: l, h => by
    simp only [ssm] at h
    simp only [ssq]
    rcases Nat.eq_zero_or_pos x with h0 | h0
    · subst h0
      have := ssq_pos (l := l) (by omega)
      omega
    · have := Nat.mul_pos h0 h0
      omega

/-! The weight of anybody. -/

def wt (l : LoadL) (p : Int) : Nat := match l.find? (fun x => x.1 == p) with
  | some x => x.2.2.toNat
  | none => 0

theorem OKL.mem {l : LoadL} (h : OKL l) {x : Int × Int × Int} (hx : x ∈ l) : 0 ≤ x.2.2 ∧ x.2.2 ≤ 259200 := by
  obtain ⟨i, hi, rfl⟩ := List.getElem_of_mem hx
  have e : ld l i = l[i] := by simp [ld, hi]
  have a3 := h.s0 i hi; have a4 := h.s1 i hi; have a5 := h.w0 i hi; have a6 := h.w1 i hi
  rw [e] at a3 a4 a5 a6
  omega

theorem wt_le {l : LoadL} (h : OKL l) (p : Int) : wt l p ≤ 259200 := by
  unfold wt
  split
  · rename_i x hx
    have := h.mem (List.mem_of_find?_eq_some hx)
    omega
  · omega

theorem weighted_lpa (l : LoadL) (p : Int) (hlen : l.length ≤ 1000000) : ∀ (n i : Nat), i + n = l.length → load_weighted_l0 p l (l.length : Int) (i : Int) = some (match (l.drop i).find? (fun x => x.1 == p) with
      | some x => .inl x.2.2
      | none => .inr ())
  | 0, i, hi => by
    rw [load_weighted_l0_eq]
    simp only [load_weighted_l0_step, dec_false (show ¬ (i : Int) < (l.length : Int) by omega), cond_false, lpK_inr]
    rw [List.drop_of_length_le (by omega)]
    rfl
  | n + 1, i, hi => by
    have hlt : i < l.length := by omega
    rw [load_weighted_l0_eq]
    simp only [load_weighted_l0_step, dec_true (show (i : Int) < (l.length : Int) by omega), cond_true, inR_t (show (0 : Int) ≤ (i : Int) by omega) (show (i : Int) < ((l.length : Nat) : Int) by omega), Int.toNat_natCast]
    have hg : l.getD i ((0 : Int), ((0 : Int), (0 : Int))) = l[i] := by simp [hlt]
    rw [hg, List.drop_eq_getElem_cons hlt, List.find?_cons, w64_in (x := (i : Int) + 1) (by omega) (by omega)]
    cases hb : (l[i].1 == p) with
    | true => simp only [cond_true, lpK_inr]
    | false =>
      simp only [cond_false, lpK_inl]
      exact weighted_lpa l p hlen n (i + 1) (by omega)

theorem weighted_any {l : LoadL} (h : OKL l) (p : Int) : load_weighted l p = some ((wt l p : Nat) : Int) := by
  have := weighted_lpa l p (by have := h.len; omega) l.length 0 (by omega)
  simp only [load_weighted, show Int.ofNat (List.length l) = (l.length : Int) from rfl]
  rw [show (0 : Int) = ((0 : Nat) : Int) from rfl, this, List.drop_zero]
  unfold wt
  cases hf : l.find? (fun x => x.1 == p) with
  | none => rfl
  | some x =>
    have := h.mem (List.mem_of_find?_eq_some hf)
    simp only [Option.bind_some, sumC_inl]
    congr 1; omega

def wts (l : LoadL) (ps : List Int) : List Nat := ps.map (wt l)

theorem Jain_l1 {l : LoadL} (h : OKL l) (ps0 ps : List Int) (x y : Int) (hlen : ps.length ≤ 100) : ∀ (n i : Nat) (s : Nat), i + n = ps.length → s ≤ 300000 * i →
    load_Jain_l1 l ps0 (s : Int) ps (ps.length : Int) (i : Int) x y = some (l, ps0, ((s + ssm (wts l (ps.drop i)) : Nat) : Int), x, y)
  | 0, i, s, hi, hs => by
    rw [load_Jain_l1_eq]
    simp only [load_Jain_l1_step, dec_false (show ¬ (i : Int) < (ps.length : Int) by omega), cond_false, lpK_inr]
    rw [List.drop_of_length_le (by omega)]
    rfl
  | n + 1, i, s, hi, hs => by
    have hlt : i < ps.length := by omega
    have hw := wt_le h ps[i]
    rw [load_Jain_l1_eq]
    simp only [load_Jain_l1_step, dec_true (show (i : Int) < (ps.length : Int) by omega), cond_true, inR_t (show (0 : Int) ≤ (i : Int) by omega) (show (i : Int) < ((ps.length : Nat) : Int) by omega), Int.toNat_natCast, weighted_any h, Option.bind_some, lpK_inl]
    have hg : ps.getD i (0 : Int) = ps[i] := by simp [hlt]
    rw [hg, w64_in (x := (i : Int) + 1) (by omega) (by omega), w64_in (x := (s : Int) + ((wt l ps[i] : Nat) : Int)) (by omega) (by omega)]
    have ih := Jain_l1 h ps0 ps x y hlen n (i + 1) (s + wt l ps[i]) (by omega) (by omega)
    rw [List.drop_eq_getElem_cons hlt]
    simp only [wts, List.map_cons, ssm] at ih ⊢
    rw [← Nat.add_assoc]
    exact ih

theorem Jain_l4 {l : LoadL} (h : OKL l) (ps0 ps : List Int) (sm x y : Int) (hlen : ps.length ≤ 100) : ∀ (n i : Nat) (s : Nat), i + n = ps.length → s ≤ 70000000000 * i →
    load_Jain_l4 l ps0 sm (s : Int) ps (ps.length : Int) (i : Int) x y = some (ps0, sm, ((s + ssq (wts l (ps.drop i)) : Nat) : Int), x, y)
  | 0, i, s, hi, hs => by
    rw [load_Jain_l4_eq]
    simp only [load_Jain_l4_step, dec_false (show ¬ (i : Int) < (ps.length : Int) by omega), cond_false, lpK_inr]
    rw [List.drop_of_length_le (by omega)]
    rfl
  | n + 1, i, s, hi, hs => by
    have hlt : i < ps.length := by omega
    have hw := wt_le h ps[i]
    have hww : wt l ps[i] * wt l ps[i] ≤ 259200 * 259200 := Nat.mul_le_mul hw hw
    rw [load_Jain_l4_eq]
    simp only [load_Jain_l4_step, dec_true (show (i : Int) < (ps.length : Int) by omega), cond_true, inR_t (show (0 : Int) ≤ (i : Int) by omega) (show (i : Int) < ((ps.length : Nat) : Int) by omega), Int.toNat_natCast, weighted_any h, Option.bind_some, lpK_inl]
    have hg : ps.getD i (0 : Int) = ps[i] := by simp [hlt]
    rw [hg, ← Int.natCast_mul, w64_in (x := (i : Int) + 1) (by omega) (by omega), w64_in (x := ((wt l ps[i] * wt l ps[i] : Nat) : Int)) (by omega) (by omega), w64_in (x := (s : Int) + ((wt l ps[i] * wt l ps[i] : Nat) : Int)) (by omega) (by omega)]
    have ih := Jain_l4 h ps0 ps sm x y hlen n (i + 1) (s + wt l ps[i] * wt l ps[i]) (by omega) (by omega)
    rw [List.drop_eq_getElem_cons hlt]
    simp only [wts, List.map_cons, ssq] at ih ⊢
    rw [← Nat.add_assoc]
    exact ih

theorem wts_le {l : LoadL} (h : OKL l) (ps : List Int) : ∀ y ∈ wts l ps, y ≤ 259200 := by
  intro y hy
  obtain ⟨p, _, rfl⟩ := List.mem_map.1 hy
  exact wt_le h p

theorem Jain_ok {l : LoadL} (h : OKL l) (ps : List Int) (hlen : ps.length ≤ 30) :
    load_Jain l ps = some (if ssm (wts l ps) = 0 then ((1, 1), 0) else ((((rN (ssm (wts l ps) * ssm (wts l ps)) (ps.length * ssq (wts l ps)) : Nat) : Int), ((rD (ssm (wts l ps) * ssm (wts l ps)) (ps.length * ssq (wts l ps)) : Nat) : Int)), 0)) := by
  have l1 := Jain_l1 h ps ps 0 0 (by omega) ps.length 0 0 (by omega) (by omega)
  have l4 := fun sm => Jain_l4 h ps ps sm 0 0 (by omega) ps.length 0 0 (by omega) (by omega)
  rw [List.drop_zero, Nat.zero_add] at l1
  have hb := ssm_le (wts_le h ps)
  have hl : (wts l ps).length = ps.length := by simp [wts]
  rw [hl] at hb
  have hb2 : ssm (wts l ps) ≤ 7776000 := by
    have := Nat.mul_le_mul_left 259200 hlen; omega
  have hq := ssq_le_sq (wts l ps)
  have hS : ssm (wts l ps) * ssm (wts l ps) ≤ 7776000 * 7776000 := Nat.mul_le_mul hb2 hb2
  simp only [load_Jain, right_ok h, Option.bind_some, Bool.not_true, cond_false, show Int.ofNat (List.length ps) = (ps.length : Int) from rfl]
  rw [dec_false (show ¬ (ps.length : Int) > 32 by omega), cond_false, show (0 : Int) = ((0 : Nat) : Int) from rfl, show load_Jain_l1 l ps ((0 : Nat) : Int) ps (ps.length : Int) ((0 : Nat) : Int) ((0 : Nat) : Int) ((0 : Nat) : Int) = _ from l1]
  simp only [Option.bind_some]
  rw [dec_false (show ¬ ((ssm (wts l ps) : Nat) : Int) > 268435456 by omega), cond_false]
  by_cases h0 : ssm (wts l ps) = 0
  · rw [if_pos h0, h0]; rfl
  · rw [if_neg h0, beq_f (show ((ssm (wts l ps) : Nat) : Int) ≠ ((0 : Nat) : Int) by omega), cond_false]
    have l4' := l4 ((ssm (wts l ps) : Nat) : Int)
    rw [List.drop_zero, Nat.zero_add] at l4'
    have hqp := ssq_pos (l := wts l ps) (by omega)
    rw [show Int.ofNat (List.length ps) = (ps.length : Int) from rfl, show load_Jain_l4 l ps ((ssm (wts l ps) : Nat) : Int) ((0 : Nat) : Int) ps (ps.length : Int) ((0 : Nat) : Int) 0 0 = _ from l4']
    simp only [Option.bind_some, show Int.ofNat (List.length ps) = (ps.length : Int) from rfl]
    have hpos : 0 < ps.length := by
      rcases Nat.eq_zero_or_pos ps.length with h1 | h1
      · have : ps = [] := List.eq_nil_of_length_eq_zero h1
        rw [this] at h0; simp [wts, ssm] at h0
      · exact h1
    have hnq : ps.length * ssq (wts l ps) ≤ 30 * (7776000 * 7776000) := Nat.mul_le_mul hlen (by omega)
    have hnq0 : 0 < ps.length * ssq (wts l ps) := Nat.mul_pos hpos hqp
    rw [← Int.natCast_mul, ← Int.natCast_mul, w64_in (x := ((ssm (wts l ps) * ssm (wts l ps) : Nat) : Int)) (by omega) (by omega), w64_in (x := ((ps.length * ssq (wts l ps) : Nat) : Int)) (by omega) (by omega),
      ratio_New_ok _ _ (by omega) hnq0 (by omega)]
    rfl

theorem Spread_l0 {l : LoadL} (h : OKL l) (ps : List Int) (hlen : ps.length ≤ 100) : ∀ (n i : Nat) (a b : Nat), i + n = ps.length → a ≤ b → b ≤ 259200 →
    ∃ a' b' : Nat, load_Spread_l0 l (a : Int) (b : Int) ps (ps.length : Int) (i : Int) = some ((a' : Int), (b' : Int)) ∧ a' ≤ b' ∧ b' ≤ 259200 ∧ (a' = b' ↔ a = b ∧ ∀ y ∈ wts l (ps.drop i), y = a)
  | 0, i, a, b, hi, hab, hb => by
    rw [load_Spread_l0_eq]
    simp only [load_Spread_l0_step, dec_false (show ¬ (i : Int) < (ps.length : Int) by omega), cond_false, lpK_inr]
    rw [List.drop_of_length_le (by omega)]
    exact ⟨a, b, rfl, hab, hb, by simp [wts]⟩
  | n + 1, i, a, b, hi, hab, hb => by
    have hlt : i < ps.length := by omega
    have hw := wt_le h ps[i]
    have hg : ps.getD i (0 : Int) = ps[i] := by simp [hlt]
    obtain ⟨a', b', e, h1, h2, h3⟩ := Spread_l0 h ps hlen n (i + 1) (min (wt l ps[i]) a) (max (wt l ps[i]) b) (by omega) (by omega) (by omega)
    rw [load_Spread_l0_eq]
    simp only [load_Spread_l0_step, dec_true (show (i : Int) < (ps.length : Int) by omega), cond_true, inR_t (show (0 : Int) ≤ (i : Int) by omega) (show (i : Int) < ((ps.length : Nat) : Int) by omega), Int.toNat_natCast, weighted_any h, Option.bind_some, lpK_inl]
    rw [hg, w64_in (x := (i : Int) + 1) (by omega) (by omega)]
    have m1 : (if ((wt l ps[i] : Nat) : Int) < (a : Int) then ((wt l ps[i] : Nat) : Int) else (a : Int)) = ((min (wt l ps[i]) a : Nat) : Int) := by split <;> omega
    have m2 : (if ((wt l ps[i] : Nat) : Int) > (b : Int) then ((wt l ps[i] : Nat) : Int) else (b : Int)) = ((max (wt l ps[i]) b : Nat) : Int) := by split <;> omega
    rw [m1, m2]
    refine ⟨a', b', e, h1, h2, h3.trans ?_⟩
    rw [List.drop_eq_getElem_cons hlt]
    simp only [wts, List.map_cons, List.mem_cons, forall_eq_or_imp]
    constructor
    · rintro ⟨x1, x2⟩
      have e1 : min (wt l ps[i]) a = a := by omega
      rw [e1] at x2
      exact ⟨by omega, by omega, x2⟩
    · rintro ⟨x1, x2, x3⟩
      have e1 : min (wt l ps[i]) a = a := by omega
      rw [e1]
      exact ⟨by omega, x3⟩

theorem Spread_ok {l : LoadL} (h : OKL l) (p : Int) (ps : List Int) (hlen : (p :: ps).length ≤ 100) :
    ∃ d : Int, load_Spread l (p :: ps) = some d ∧ (d = 0 ↔ ∀ y ∈ wts l ps, y = wt l p) := by
  have hw := wt_le h p
  obtain ⟨a', b', e, h1, h2, h3⟩ := Spread_l0 h (p :: ps) hlen (p :: ps).length 0 (wt l p) (wt l p) (by omega) (Nat.le_refl _) (by omega)
  simp only [load_Spread, right_ok h, Option.bind_some, Bool.not_true, cond_false, show Int.ofNat (List.length (p :: ps)) = ((p :: ps).length : Int) from rfl]
  rw [beq_f (show ((p :: ps).length : Int) ≠ 0 by simp; omega), cond_false, inR_t (by omega) (by simp)]
  simp only [cond_true, List.getD_cons_zero, weighted_any h, Option.bind_some]
  rw [show (0 : Int) = ((0 : Nat) : Int) from rfl, e]
  simp only [Option.bind_some]
  rw [w64_in (by omega) (by omega)]
  refine ⟨_, rfl, ?_⟩
  rw [List.drop_zero] at h3
  have : (b' : Int) - (a' : Int) = 0 ↔ a' = b' := by omega
  rw [show ((0 : Nat) : Int) = 0 from rfl, this, h3]
  simp [wts]

theorem Fair_l0 (ps : List Int) (l : LoadL) (hlen : ps.length ≤ 100) : ∀ (n i : Nat) (q : List Int), i + n = ps.length → q.length = i + 1 →
    ∃ q', law17_LoadFair_l0 ps (ps.length : Int) (i : Int) l q = some (l, q') ∧ q'.length = ps.length + 1
  | 0, i, q, hi, hq => by
    rw [law17_LoadFair_l0_eq]
    simp only [law17_LoadFair_l0_step, dec_false (show ¬ (i : Int) < (ps.length : Int) by omega), cond_false, lpK_inr]
    exact ⟨q, rfl, by omega⟩
  | n + 1, i, q, hi, hq => by
    rw [law17_LoadFair_l0_eq]
    simp only [law17_LoadFair_l0_step, dec_true (show (i : Int) < (ps.length : Int) by omega), cond_true, inR_t (show (0 : Int) ≤ (i : Int) by omega) (show (i : Int) < ((ps.length : Nat) : Int) by omega), Int.toNat_natCast]
    rw [dec_true (by simp [sizeMax]; omega), cond_true, lpK_inl, w64_in (x := (i : Int) + 1) (by omega) (by omega)]
    exact Fair_l0 ps l hlen n (i + 1) _ (by omega) (by simp; omega)

theorem gcd_one_left (n : Nat) : Nat.gcd 1 n = 1 := by simp

theorem LoadFair_true (t : List Int) (_h : Wf (.list (.int .i64)) t) (people : List Int) (_h2 : Wf (.list (.int .u8)) people) : law17_LoadFair t people = some true := by
  simp only [law17_LoadFair, made_Light, Option.bind_some, show Int.ofNat (List.length t) = (t.length : Int) from rfl, show Int.ofNat (List.length people) = (people.length : Int) from rfl]
  by_cases hl : (t.length : Int) ≤ 500 ∧ (people.length : Int) ≤ 20
  · rw [dec_true hl.1, dec_false (show ¬ (people.length : Int) > 20 by omega)]
    simp only [Bool.not_true, cond_false, made_Roll, Option.bind_some]
    obtain ⟨l, a', e, hok, _⟩ := Loads_ok (L := t) (a := 0) ⟨by omega, by omega, by omega⟩
    obtain ⟨q', e2, hq'⟩ := Fair_l0 people l (by omega) people.length 0 [0] (by omega) rfl
    rw [show ((0 : Nat) : Int) = 0 from rfl] at e2
    simp only [e, Option.bind_some, e2, show Int.ofNat (List.length q') = (q'.length : Int) from rfl]
    obtain ⟨p, ps, rfl⟩ : ∃ p ps, q' = p :: ps := by
      cases q' with
      | nil => simp at hq'
      | cons p ps => exact ⟨p, ps, rfl⟩
    have hlen : (p :: ps).length ≤ 30 := by omega
    have hlen0 : 0 < (p :: ps).length := by simp
    obtain ⟨d, hd, hd0⟩ := Spread_ok hok p ps (by omega)
    have hv := vari_nonneg (wts l (p :: ps))
    have hll : (wts l (p :: ps)).length = (p :: ps).length := by simp [wts]
    have hN := r02_New_ok 1 (p :: ps).length (by omega) hlen0 (by omega)
    have hr1 : rN 1 (p :: ps).length = 1 := by unfold rN; rw [gcd_one_left]
    have hr2 : rD 1 (p :: ps).length = (p :: ps).length := by unfold rD; rw [gcd_one_left, Nat.div_one]
    rw [hr1, hr2] at hN
    have hqs := ssq_le_sq (wts l (p :: ps))
    have hsz := ssm_zero (l := wts l (p :: ps))
    have hsp := ssq_pos (l := wts l (p :: ps))
    have hb := ssm_le (wts_le hok (p :: ps))
    rw [hll] at hb
    have hb2 : ssm (wts l (p :: ps)) ≤ 7776000 := by
      have := Nat.mul_le_mul_left 259200 hlen; omega
    have hS : ssm (wts l (p :: ps)) * ssm (wts l (p :: ps)) ≤ 7776000 * 7776000 := Nat.mul_le_mul hb2 hb2
    rw [show (1 : Int) = ((1 : Nat) : Int) from rfl, show r02_New ((1 : Nat) : Int) ((p :: ps).length : Int) = _ from hN]
    simp only [Jain_ok hok (p :: ps) hlen, Option.bind_some, hd, sane17]
    by_cases h0 : ssm (wts l (p :: ps)) = 0
    · rw [if_pos h0]
      have hall : d = 0 := hd0.2 fun y hy => by
        have a1 := hsz h0 y (by simp only [wts, List.map_cons, List.mem_cons]; exact .inr hy)
        have a2 := hsz h0 (wt l p) (by simp [wts])
        omega
      have c1 := r02_Less_ok 1 1 1 1 (by omega) (by omega) (by omega) (by omega) (by omega) (by omega) (by simp) (by simp)
      have c2 := r02_Less_ok 1 1 1 (p :: ps).length (by omega) hlen0 (by omega) (by omega) (by omega) (by omega) (by simp) (by simp)
      have c1' : r02_Less (((1 : Nat) : Int), ((1 : Nat) : Int)) ((1 : Int), (1 : Int)) = some false := by rw [show r02_Less (((1 : Nat) : Int), ((1 : Nat) : Int)) ((1 : Int), (1 : Int)) = _ from c1]; rfl
      have c2' : r02_Less ((1 : Int), (1 : Int)) (((1 : Nat) : Int), (((p :: ps).length : Nat) : Int)) = some false := by
        rw [show r02_Less ((1 : Int), (1 : Int)) (((1 : Nat) : Int), (((p :: ps).length : Nat) : Int)) = _ from c2, decide_eq_false (by omega)]
      simp only [beq_self_eq_true, cond_true, c1', c2', Option.bind_some, Bool.not_false, hall]
      rfl
    · rw [if_neg h0]
      have hqp := hsp (by omega)
      have hnq : (p :: ps).length * ssq (wts l (p :: ps)) ≤ 30 * (7776000 * 7776000) := Nat.mul_le_mul hlen (by omega)
      have hnq0 : 0 < (p :: ps).length * ssq (wts l (p :: ps)) := Nat.mul_pos hlen0 hqp
      have hcs : ssm (wts l (p :: ps)) * ssm (wts l (p :: ps)) ≤ (p :: ps).length * ssq (wts l (p :: ps)) := by
        have : (ssm (wts l (p :: ps)) : Int) * (ssm (wts l (p :: ps)) : Int) ≤ ((p :: ps).length : Int) * (ssq (wts l (p :: ps)) : Int) := by
          unfold vari at hv; rw [hll] at hv; omega
        exact_mod_cast this
      have hvz : vari (wts l (p :: ps)) = 0 ↔ ssm (wts l (p :: ps)) * ssm (wts l (p :: ps)) = (p :: ps).length * ssq (wts l (p :: ps)) := by
        unfold vari; rw [hll]
        constructor
        · intro h
          have : (ssm (wts l (p :: ps)) : Int) * (ssm (wts l (p :: ps)) : Int) = ((p :: ps).length : Int) * (ssq (wts l (p :: ps)) : Int) := by omega
          exact_mod_cast this
        · intro h
          have : (ssm (wts l (p :: ps)) : Int) * (ssm (wts l (p :: ps)) : Int) = ((p :: ps).length : Int) * (ssq (wts l (p :: ps)) : Int) := by exact_mod_cast h
          omega
      have hdz : d = 0 ↔ ssm (wts l (p :: ps)) * ssm (wts l (p :: ps)) = (p :: ps).length * ssq (wts l (p :: ps)) := by
        rw [hd0, ← hvz]
        constructor
        · intro h
          exact vari_same (x := wt l p) fun y hy => by
            rcases List.mem_cons.1 (show y ∈ wt l p :: wts l ps from hy) with h1 | h1
            · exact h1
            · exact h y h1
        · intro h
          exact vari_zero (x := wt l p) (l := wts l ps) h
      have hS0 : 0 < ssm (wts l (p :: ps)) * ssm (wts l (p :: ps)) := Nat.mul_pos (by omega) (by omega)
      have hle : (p :: ps).length * ssq (wts l (p :: ps)) ≤ (p :: ps).length * (ssm (wts l (p :: ps)) * ssm (wts l (p :: ps))) := Nat.mul_le_mul_left _ hqs
      generalize ssm (wts l (p :: ps)) * ssm (wts l (p :: ps)) = A at *
      generalize (p :: ps).length * ssq (wts l (p :: ps)) = B at *
      have x1 := rN_mul A B
      have x2 := rD_mul A B
      have cop := r_cop (n := A) hnq0
      have y1 := rN_le A B
      have y2 := rD_le A B
      have y3 := rD_pos (n := A) hnq0
      have hg : 0 < Nat.gcd A B := Nat.gcd_pos_of_pos_right A hnq0
      generalize Nat.gcd A B = g at *
      generalize rN A B = N at *
      generalize rD A B = D at *
      generalize hLn : (p :: ps).length = L at *
      have hND : N ≤ D := by
        rcases Nat.lt_or_ge D N with h | h
        · have := Nat.mul_lt_mul_of_pos_right h hg; omega
        · exact h
      have hDL : D ≤ N * L := by
        rcases Nat.lt_or_ge (N * L) D with h | h
        · have h1 := Nat.mul_lt_mul_of_pos_right h hg
          have h2 : N * L * g = L * A := by rw [← x1]; grind
          omega
        · exact h
      have c1 := r02_Less_ok 1 1 N D (by omega) y3 (by omega) (by omega) (by omega) (by omega) (by simp) cop
      have c2 := r02_Less_ok N D 1 L y3 hlen0 (by omega) (by omega) (by omega) (by omega) cop (by simp)
      rw [decide_eq_false (by omega)] at c1 c2
      simp only [beq_self_eq_true, cond_true, c1, c2, Option.bind_some, Bool.not_false]
      have hone : (((N : Int) == ((1 : Nat) : Int)) && ((D : Int) == ((1 : Nat) : Int))) = (d == ((0 : Nat) : Int)) := by
        rw [Bool.eq_iff_iff]
        simp only [Bool.and_eq_true, beq_iff_eq]
        rw [show (d = ((0 : Nat) : Int) ↔ d = 0) from Iff.rfl, hdz]
        constructor
        · rintro ⟨h1, h2⟩
          have h1 : N = 1 := by omega
          have h2 : D = 1 := by omega
          rw [← x1, ← x2, h1, h2]
        · intro h
          have hNDe : N = D := by
            rcases Nat.lt_or_ge N D with h' | h'
            · have := Nat.mul_lt_mul_of_pos_right h' hg; omega
            · omega
          subst hNDe
          rw [Nat.gcd_self] at cop
          omega
      have hone' : (((N : Int) == (1 : Int)) && ((D : Int) == (1 : Int))) = (d == (0 : Int)) := hone
      rw [show ((1 : Nat) : Int) = 1 from rfl, hone']
      simp
  · have hb : cond (!decide ((t.length : Int) ≤ 500)) true (decide ((people.length : Int) > 20)) = true := by
      by_cases h1 : (t.length : Int) ≤ 500
      · rw [dec_true h1, dec_true (show (people.length : Int) > 20 by omega)]; rfl
      · rw [dec_false h1]; rfl
    rw [hb]
    simp only [cond_true, sane17, Option.bind_some]
end Go.Proofs.Pw
