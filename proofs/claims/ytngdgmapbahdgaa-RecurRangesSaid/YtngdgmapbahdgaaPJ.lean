/- Chapter 10: the law RecurRanges, on plain functions. -/
import Derived.Test.YtngdgmapbahdgaaPI
open Go Go.Lft
namespace Go.Proofs.Pw

/-- How many handovers lie ahead of an instant. -/
structure Cut (o : Int) (l : TrL) (L : LayerT) (f : Int) (B : Nat) : Prop where
  lo : ∀ j : Nat, j < B → hov o l L (j : Int) < f
  hi : f ≤ hov o l L (B : Int)
  small : B ≤ 1900

theorem K_small {o : Int} {l : TrL} (ht : TOk o l) {L : LayerT} (h : LOk L) {K : Int} (hk : 0 ≤ K) (hK : L.2.2.2.1 ≠ 0 → K * stepD L ≤ 40000) (hh : hov o l L K ≤ 1772000000) : K ≤ 1800 := by
  have hr := h.lr
  have hs := hr.step
  have hd0 := h.d0; have hd1 := h.d1; have hc0 := h.c0; have hc1 := h.c1; have he0 := h.e0; have he1 := h.e1
  by_cases h0 : L.2.2.2.1 = 0
  · obtain ⟨j, f⟩ := fstI_ok ht (s := sLoc L 0) (by unfold sLoc; omega)
    have ha := f.around ht (by unfold sLoc; omega)
    have hs0 : sLoc L 0 = (L.2.2.1.1 + 0 * stepD L) * 86400 + L.2.2.1.2 := rfl
    have hm0 : 3600 * K ≤ 3600 * L.2.2.2.2.1 * K := Int.mul_le_mul_of_nonneg_right (by omega) hk
    unfold hov at hh
    rw [if_pos h0] at hh
    omega
  · have ha := hov_around ht hr h0 hk (by have := hK h0; omega)
    have hs0 : sLoc L K = (L.2.2.1.1 + K * stepD L) * 86400 + L.2.2.1.2 := rfl
    have := mulD hk hs.1 (m := 1800) (by omega)
    exact this

theorem hov_leN {o : Int} {l : TrL} (ht : TOk o l) (hd : Dif o l) {L : LayerT} (h : LOk L) {a b : Nat} (hab : a ≤ b) (hb : b ≤ 2000) : hov o l L (a : Int) ≤ hov o l L (b : Int) := by
  have := hov_le ht hd h.lr (b - a) (a : Int) (by omega) (fun hu => by
    have := h.small (k := (b : Int)) (by omega) (by omega) hu
    rw [show (a : Int) + ((b - a : Nat) : Int) = (b : Int) by omega]; omega)
  rw [show (a : Int) + ((b - a : Nat) : Int) = (b : Int) by omega] at this
  exact this
theorem hov_ltN {o : Int} {l : TrL} (ht : TOk o l) (hd : Dif o l) {L : LayerT} (h : LOk L) {a b : Nat} (hab : a < b) (hb : b ≤ 2000) : hov o l L (a : Int) < hov o l L (b : Int) := by
  have h1 := hov_leN ht hd h (show a + 1 ≤ b from hab) hb
  have h2 := hov_up ht hd h.lr (k := (a : Int)) (by omega) (fun hu => by have := h.small (k := (a : Int) + 1) (by omega) (by omega) hu; omega)
  rw [show ((a + 1 : Nat) : Int) = (a : Int) + 1 by omega] at h1
  omega

theorem ex_cut {o : Int} {l : TrL} (ht : TOk o l) (hd : Dif o l) {L : LayerT} (h : LOk L) {f : Int} (hf : f ≤ 1772000000) : ∃ B, Cut o l L f B := by
  by_cases h0 : f ≤ hov o l L 0
  · exact ⟨0, fun j hj => by omega, h0, by omega⟩
  · have hr0 := hov_range ht h (k := 0) (by omega) (by omega)
    obtain ⟨K, _, k0, k1, k2, k3, k4⟩ := ShiftOf_ok ht hd h.lr (t := f - 1) (by omega) (by omega) (by omega)
    have hs := h.lr.step
    have hK := K_small ht h k0 (fun hu => by have := k2 hu; rw [Int.add_mul, Int.one_mul] at this; omega) (by omega)
    refine ⟨K.toNat + 1, fun j hj => ?_, ?_, by omega⟩
    · have := hov_leN ht hd h (a := j) (b := K.toNat) (by omega) (by omega)
      rw [show ((K.toNat : Nat) : Int) = K by omega] at this
      omega
    · rw [show ((K.toNat + 1 : Nat) : Int) = K + 1 by omega]; omega

/-- Handovers, n of them, from the one numbered a on. -/
noncomputable def hl (o : Int) (l : TrL) (L : LayerT) (a n : Nat) : List Int := (List.range n).map fun (j : Nat) => hov o l L ((a + j : Nat) : Int)

theorem hl_cons (o : Int) (l : TrL) (L : LayerT) (a n : Nat) : hl o l L a (n + 1) = hov o l L (a : Int) :: hl o l L (a + 1) n := by
  unfold hl
  rw [List.range_succ_eq_map, List.map_cons, List.map_map]
  congr 1
  refine List.map_congr_left fun j _ => ?_
  simp only [Function.comp]
  congr 1
  omega
theorem hl_len (o : Int) (l : TrL) (L : LayerT) (a n : Nat) : (hl o l L a n).length = n := by simp [hl]
theorem hl_app (o : Int) (l : TrL) (L : LayerT) : ∀ (n a m : Nat), hl o l L a n ++ hl o l L (a + n) m = hl o l L a (n + m)
  | 0, a, m => by simp [hl]
  | n + 1, a, m => by
    rw [hl_cons, show n + 1 + m = (n + m) + 1 by omega, hl_cons, List.cons_append, show a + (n + 1) = a + 1 + n by omega, hl_app o l L n (a + 1) m]
theorem hl_get (o : Int) (l : TrL) (L : LayerT) (a n i : Nat) (hi : i < n) : (hl o l L a n).getD i 0 = hov o l L ((a + i : Nat) : Int) := by simp [hl, hi]

theorem HO_at {o : Int} {l : TrL} (ht : TOk o l) {L : LayerT} (h : LOk L) {k : Nat} (hk : k ≤ 2000) :
    recur_HandoverOf (o, l) (L.1, L.2.1, (L.2.2.1.1, L.2.2.1.2), L.2.2.2.1, L.2.2.2.2.1, L.2.2.2.2.2.1, L.2.2.2.2.2.2.1, L.2.2.2.2.2.2.2.1, L.2.2.2.2.2.2.2.2) (k : Int) = some (hov o l L (k : Int), true) :=
  HandoverOf_ok ht h.lr (by omega) (fun _ => by omega) (fun h0 => by have := h.small (k := (k : Int)) (by omega) (by omega) h0; omega)

theorem HsOf_lp {o : Int} {l : TrL} (ht : TOk o l) (hd : Dif o l) {L : LayerT} (h : LOk L) {f t : Int} {B : Nat} (hB : Cut o l L t B) : ∀ (n k : Nat) (acc : List Int), k + n = B → f ≤ hov o l L (k : Int) → acc.length + n ≤ 10000 →
    recur_HandoversOf_l0 f t (k : Int) o l L.1 L.2.1 L.2.2.1.1 L.2.2.1.2 L.2.2.2.1 L.2.2.2.2.1 L.2.2.2.2.2.1 L.2.2.2.2.2.2.1 L.2.2.2.2.2.2.2.1 L.2.2.2.2.2.2.2.2 acc = some (acc ++ hl o l L k n)
  | 0, k, acc, hk, _, _ => by
    have hs := hB.small
    have hh := hB.hi
    obtain rfl : k = B := by omega
    rw [recur_HandoversOf_l0_eq]
    simp only [recur_HandoversOf_l0_step, HO_at ht h (k := k) (by omega), Option.bind_some, Bool.not_true, cond_false]
    rw [dec_true (show hov o l L (k : Int) ≥ t from hh), cond_true, lpK_inr]
    simp [hl]
  | n + 1, k, acc, hk, hf, ha => by
    have hs := hB.small
    have hlo := hB.lo k (by omega)
    have hup := hov_ltN ht hd h (a := k) (b := k + 1) (by omega) (by omega)
    have ih := HsOf_lp ht hd h hB (f := f) n (k + 1) (acc ++ [hov o l L (k : Int)]) (by omega) (by omega) (by simp; omega)
    rw [recur_HandoversOf_l0_eq]
    simp only [recur_HandoversOf_l0_step, HO_at ht h (k := k) (by omega), Option.bind_some, Bool.not_true, cond_false]
    rw [dec_false (show ¬ hov o l L (k : Int) ≥ t by omega), dec_true (show hov o l L (k : Int) ≥ f from hf), dec_true (by simp [sizeMax]; omega), w64_in (x := (k : Int) + 1) (by omega) (by omega)]
    simp only [cond_false, cond_true, lpK_inl]
    rw [show (k : Int) + 1 = ((k + 1 : Nat) : Int) by omega, hl_cons]
    rw [List.append_assoc] at ih
    exact ih

theorem HsOf_ok {o : Int} {l : TrL} (ht : TOk o l) (hd : Dif o l) {L : LayerT} (h : LOk L) {f t : Int} (hf0 : 0 ≤ f) (hft : f ≤ t) (hf : f ≤ 1772000000) {A B : Nat} (hA : Cut o l L f A) (hB : Cut o l L t B) :
    recur_HandoversOf (o, l) L f t = some (hl o l L A (B - A)) := by
  have hAs := hA.small; have hBs := hB.small
  have hAB : A ≤ B := by
    rcases Nat.lt_or_ge B A with hlt | hge
    · have := hA.lo B hlt; have := hB.hi; omega
    · exact hge
  by_cases h0 : f < hov o l L 0
  · have hA0 : A = 0 := by
      rcases Nat.eq_zero_or_pos A with h' | h'
      · exact h'
      · have := hA.lo 0 h'
        rw [show ((0 : Nat) : Int) = 0 from rfl] at this; omega
    subst hA0
    have lp := HsOf_lp ht hd h hB (f := f) B 0 [] (by omega) (by rw [show ((0 : Nat) : Int) = 0 from rfl]; omega) (by simp; omega)
    simp only [recur_HandoversOf, show recur_ShiftOf (o, l) (L.1, L.2.1, (L.2.2.1.1, L.2.2.1.2), L.2.2.2.1, L.2.2.2.2.1, L.2.2.2.2.2.1, L.2.2.2.2.2.2.1, L.2.2.2.2.2.2.2.1, L.2.2.2.2.2.2.2.2) f = _ from ShiftOf_lo ht h.lr h0, Option.bind_some]
    rw [if_neg (by omega)]
    rw [show ((0 : Nat) : Int) = 0 from rfl] at lp
    simp only [lp, Option.bind_some, List.nil_append, Nat.sub_zero]
  · obtain ⟨K, e, k0, k1, k2, k3, k4⟩ := ShiftOf_ok ht hd h.lr (t := f) hf0 (by omega) (by omega)
    have hs := h.lr.step
    have hK := K_small ht h k0 (fun hu => by have := k2 hu; rw [Int.add_mul, Int.one_mul] at this; omega) (by omega)
    obtain ⟨k, hk⟩ : ∃ k : Nat, K = (k : Int) := ⟨K.toNat, by omega⟩
    subst hk
    have hif : (if (k : Int) > 0 then (k : Int) else 0) = (k : Int) := by split <;> omega
    simp only [recur_HandoversOf, show recur_ShiftOf (o, l) (L.1, L.2.1, (L.2.2.1.1, L.2.2.1.2), L.2.2.2.1, L.2.2.2.2.1, L.2.2.2.2.2.1, L.2.2.2.2.2.2.1, L.2.2.2.2.2.2.2.1, L.2.2.2.2.2.2.2.2) f = _ from e, Option.bind_some, hif]
    by_cases heq : hov o l L (k : Int) = f
    · have hAk : A = k := by
        rcases Nat.lt_trichotomy A k with h' | h' | h'
        · have := hov_ltN ht hd h h' (by omega); have := hA.hi; omega
        · exact h'
        · have := hA.lo k h'; omega
      subst hAk
      rw [HsOf_lp ht hd h hB (f := f) (B - A) A [] (by omega) (by omega) (by simp; omega)]
      simp
    · have hAk : A = k + 1 := by
        rcases Nat.lt_trichotomy A (k + 1) with h' | h' | h'
        · have := hov_leN ht hd h (show A ≤ k by omega) (by omega); have := hA.hi; omega
        · exact h'
        · have := hA.lo (k + 1) h'
          rw [show ((k + 1 : Nat) : Int) = (k : Int) + 1 by omega] at this; omega
      subst hAk
      have lp := HsOf_lp ht hd h hB (f := f) (B - (k + 1)) (k + 1) [] (by omega) (by rw [show ((k + 1 : Nat) : Int) = (k : Int) + 1 by omega]; omega) (by simp; omega)
      rw [recur_HandoversOf_l0_eq]
      simp only [recur_HandoversOf_l0_step, HO_at ht h (k := k) (by omega), Option.bind_some, Bool.not_true, cond_false]
      rw [dec_false (show ¬ hov o l L (k : Int) ≥ t by omega), dec_false (show ¬ hov o l L (k : Int) ≥ f by omega), w64_in (x := (k : Int) + 1) (by omega) (by omega)]
      simp only [cond_false, lpK_inl]
      rw [show (k : Int) + 1 = ((k + 1 : Nat) : Int) by omega, lp]
      simp

theorem Handovers_ok {z : ZoneT} {l : TrL} (hz : ZTab z l) (hd : Dif z.2.1 l) {L : LayerT} (h : LOk L) {f t : Int} (hf0 : 0 ≤ f) (hft : f ≤ t) (ht : t ≤ 1772000000) (hq : t - f ≤ 34560000) {A B : Nat} (hA : Cut z.2.1 l L f A) (hB : Cut z.2.1 l L t B) :
    recur_Handovers z L f t = some (hl z.2.1 l L A (B - A), 0) := by
  simp only [recur_Handovers, show recur_open (z.1, z.2.1, z.2.2) (L.1, L.2.1, (L.2.2.1.1, L.2.2.1.2), L.2.2.2.1, L.2.2.2.2.1, L.2.2.2.2.2.1, L.2.2.2.2.2.2.1, L.2.2.2.2.2.2.2.1, L.2.2.2.2.2.2.2.2) = _ from ropen_ok hz h.lr, Option.bind_some, Bool.not_true, cond_false, recur_in_t hf0 (show f ≤ 8589934592 by omega), recur_in_t hft (show t ≤ 8589934592 by omega)]
  rw [w64_in (x := t - f) (by omega) (by omega), dec_false (show ¬ t - f > 34560000 by omega), cond_false]
  simp only [show recur_HandoversOf (z.2.1, l) (L.1, L.2.1, (L.2.2.1.1, L.2.2.1.2), L.2.2.2.1, L.2.2.2.2.1, L.2.2.2.2.2.1, L.2.2.2.2.2.2.1, L.2.2.2.2.2.2.2.1, L.2.2.2.2.2.2.2.2) f t = _ from HsOf_ok hz.2 hd h hf0 hft (by omega) hA hB, Option.bind_some]

theorem same_lp (xs : List Int) (hx : xs.length ≤ 100000) : ∀ (n i : Nat), i + n = xs.length → law10_same_l0 xs xs (xs.length : Int) (i : Int) = some (.inr ())
  | 0, i, hi => by
    rw [law10_same_l0_eq]
    simp only [law10_same_l0_step]
    rw [dec_false (by omega), cond_false, lpK_inr]
  | n + 1, i, hi => by
    rw [law10_same_l0_eq]
    simp only [law10_same_l0_step]
    rw [dec_true (by omega), inR_t (by omega) (by omega), w64_in (x := (i : Int) + 1) (by omega) (by omega)]
    simp only [cond_true, bne_self_eq_false, cond_false, lpK_inl]
    exact same_lp xs hx n (i + 1) (by omega)
theorem same_ok (xs : List Int) (hx : xs.length ≤ 100000) : law10_same xs xs = some true := by
  have := same_lp xs hx xs.length 0 (by omega)
  rw [show ((0 : Nat) : Int) = 0 from rfl] at this
  simp only [law10_same, bne_self_eq_false, cond_false, show Int.ofNat (List.length xs) = (xs.length : Int) from rfl, this, Option.bind_some, sumC_inr]

theorem rran_lp {z : ZoneT} {l : TrL} (hz : ZTab z l) (hd : Dif z.2.1 l) {L : LayerT} (h : LOk L) {f t : Int} (ht : t ≤ 1772000000) {A B : Nat} (hA : Cut z.2.1 l L f A) (hB : Cut z.2.1 l L t B) : ∀ (n i : Nat), i + n = B - A →
    law10_RecurRanges_l0 f t ((B - A : Nat) : Int) (i : Int) L.1 L.2.1 L.2.2.1.1 L.2.2.1.2 L.2.2.2.1 L.2.2.2.2.1 L.2.2.2.2.2.1 L.2.2.2.2.2.2.1 L.2.2.2.2.2.2.2.1 L.2.2.2.2.2.2.2.2 z.1 z.2.1 z.2.2 (hl z.2.1 l L A (B - A)) = some (.inr ())
  | 0, i, hi => by
    rw [law10_RecurRanges_l0_eq]
    simp only [law10_RecurRanges_l0_step]
    rw [dec_false (by omega), cond_false, lpK_inr]
  | n + 1, i, hi => by
    have ih := rran_lp hz hd h ht hA hB n (i + 1) (by omega)
    have hBs := hB.small
    have hlo := hB.lo (A + i) (by omega)
    have hge := hov_leN hz.2 hd h (a := A) (b := A + i) (by omega) (by omega)
    have hAh := hA.hi
    have hz0 := hov_leN hz.2 hd h (a := 0) (b := A + i) (by omega) (by omega)
    have hr0 := hov_range hz.2 h (k := 0) (by omega) (by omega)
    rw [show ((0 : Nat) : Int) = 0 from rfl] at hz0
    have hup := hov_ltN hz.2 hd h (a := A + i) (b := A + i + 1) (by omega) (by omega)
    have hsm := K_small hz.2 h (K := ((A + i : Nat) : Int)) (by omega) (fun hu => by have := h.small (k := ((A + i : Nat) : Int)) (by omega) (by omega) hu; omega) (by omega)
    have e2 : recur_Handover (z.1, z.2.1, z.2.2) (L.1, L.2.1, (L.2.2.1.1, L.2.2.1.2), L.2.2.2.1, L.2.2.2.2.1, L.2.2.2.2.2.1, L.2.2.2.2.2.2.1, L.2.2.2.2.2.2.2.1, L.2.2.2.2.2.2.2.2) ((A + i : Nat) : Int) = _ := Handover_ok hz h (by omega) (by omega)
    have s1 : recur_Shift (z.1, z.2.1, z.2.2) (L.1, L.2.1, (L.2.2.1.1, L.2.2.1.2), L.2.2.2.1, L.2.2.2.2.1, L.2.2.2.2.2.1, L.2.2.2.2.2.2.1, L.2.2.2.2.2.2.2.1, L.2.2.2.2.2.2.2.2) (hov z.2.1 l L ((A + i : Nat) : Int)) = some (((A + i : Nat) : Int), 0) := by
      obtain ⟨K, e, k0, k1, k2, k3, k4⟩ := ShiftOf_ok hz.2 hd h.lr (t := hov z.2.1 l L ((A + i : Nat) : Int)) (by omega) (by omega) (by omega)
      have : K = ((A + i : Nat) : Int) := hov_uniq hz.2 hd h.lr k0 (by omega) (fun hu => by have := k2 hu; omega) (fun hu => by have := h.small (k := ((A + i : Nat) : Int) + 1) (by omega) (by omega) hu; omega) k3 k4 (by omega) (by rw [show ((A + i : Nat) : Int) + 1 = ((A + i + 1 : Nat) : Int) by omega]; omega)
      subst this
      exact Shift_of hz h (by omega) (by omega) e
    have hg := hl_get z.2.1 l L A (B - A) i (by omega)
    have hlen := hl_len z.2.1 l L A (B - A)
    rw [law10_RecurRanges_l0_eq]
    simp only [law10_RecurRanges_l0_step]
    rw [dec_true (by omega), inR_t (show (0 : Int) ≤ (i : Int) by omega) (by omega), w64_in (x := (i : Int) + 1) (by omega) (by omega)]
    simp only [cond_true, Int.toNat_natCast, hg, s1, e2, Option.bind_some, bne_self_eq_false, cond_false, Bool.true_or]
    rw [dec_false (show ¬ hov z.2.1 l L ((A + i : Nat) : Int) < f by omega), dec_false (show ¬ hov z.2.1 l L ((A + i : Nat) : Int) ≥ t by omega)]
    simp only [cond_false, lpK_inl]
    exact ih

theorem RecurRanges_true (t : List Int) (_h : Wf (.list (.int .i64)) t) (n : Int) (_h2 : Wf (.int .i64) n) (m : Int) (_h3 : Wf (.int .i64) m) : law10_RecurRanges t n m = some true := by
  simp only [law10_RecurRanges, made_Light, Option.bind_some, show Int.ofNat (List.length t) = (t.length : Int) from rfl]
  by_cases hl' : (t.length : Int) ≤ 500
  · rw [dec_true hl']
    simp only [Bool.not_true, cond_false, made_Roll, Option.bind_some]
    obtain ⟨zs, ps, cs, a1, e1, hs, d1⟩ := Staff_ok (L := t) (a := 0) ⟨by omega, by omega, by omega⟩
    obtain ⟨L, a2, e2, hL, z0, z1, d2⟩ := Layer_ok d1 hs (ss := []) (ByteArray.mk #[97])
    obtain ⟨f, a3, e3, f0, f1, d3⟩ := Instant_ok d2
    have hz1 := hs.z1
    have hlt : L.2.1.toNat < zs.length := by omega
    have hz : ZOk (zs.getD L.2.1.toNat (ByteArray.empty, ((0 : Int), ([] : List Rule)))) := by
      rw [List.getD_eq_getElem?_getD, List.getElem?_eq_getElem hlt]
      exact hs.ok _ (List.getElem_mem hlt)
    obtain ⟨l, hzt, hd⟩ := hz.tab
    simp only [e1, e2, Option.bind_some]
    rw [inR_t z0 z1, cond_true]
    simp only [e3, Option.bind_some, Mod_eq n 777600 (by omega) (by omega), Mod_eq m 777600 (by omega) (by omega)]
    rw [w64_in (x := f + n % 777600) (by omega) (by omega), w64_in (x := f + n % 777600 + m % 777600) (by omega) (by omega)]
    generalize hzz : zs.getD L.2.1.toNat (ByteArray.empty, ((0 : Int), ([] : List Rule))) = z at *
    obtain ⟨mid, hmid⟩ : ∃ mid, mid = f + n % 777600 := ⟨_, rfl⟩
    obtain ⟨to, hto⟩ : ∃ to, to = mid + m % 777600 := ⟨_, rfl⟩
    rw [← hmid, ← hto]
    obtain ⟨A, hA⟩ := ex_cut hzt.2 hd hL (f := f) (by omega)
    obtain ⟨M, hM⟩ := ex_cut hzt.2 hd hL (f := mid) (by omega)
    obtain ⟨B, hB⟩ := ex_cut hzt.2 hd hL (f := to) (by omega)
    have hAs := hA.small; have hMs := hM.small; have hBs := hB.small
    have hAM : A ≤ M := by
      rcases Nat.lt_or_ge M A with h | h
      · have := hA.lo M h; have := hM.hi; omega
      · exact h
    have hMB : M ≤ B := by
      rcases Nat.lt_or_ge B M with h | h
      · have := hM.lo B h; have := hB.hi; omega
      · exact h
    have h1 : recur_Handovers (z.1, z.2.1, z.2.2) (L.1, L.2.1, (L.2.2.1.1, L.2.2.1.2), L.2.2.2.1, L.2.2.2.2.1, L.2.2.2.2.2.1, L.2.2.2.2.2.2.1, L.2.2.2.2.2.2.2.1, L.2.2.2.2.2.2.2.2) f mid = _ := Handovers_ok hzt hd hL (by omega) (by omega) (by omega) (by omega) hA hM
    have h2 : recur_Handovers (z.1, z.2.1, z.2.2) (L.1, L.2.1, (L.2.2.1.1, L.2.2.1.2), L.2.2.2.1, L.2.2.2.2.1, L.2.2.2.2.2.1, L.2.2.2.2.2.2.1, L.2.2.2.2.2.2.2.1, L.2.2.2.2.2.2.2.2) mid to = _ := Handovers_ok hzt hd hL (by omega) (by omega) (by omega) (by omega) hM hB
    have h3 : recur_Handovers (z.1, z.2.1, z.2.2) (L.1, L.2.1, (L.2.2.1.1, L.2.2.1.2), L.2.2.2.1, L.2.2.2.2.1, L.2.2.2.2.2.1, L.2.2.2.2.2.2.1, L.2.2.2.2.2.2.2.1, L.2.2.2.2.2.2.2.2) f to = _ := Handovers_ok hzt hd hL (by omega) (by omega) (by omega) (by omega) hA hB
    have happ : hl z.2.1 l L A (M - A) ++ hl z.2.1 l L M (B - M) = hl z.2.1 l L A (B - A) := by
      have := hl_app z.2.1 l L (M - A) A (B - M)
      rw [show A + (M - A) = M by omega, show M - A + (B - M) = B - A by omega] at this
      exact this
    have hlen := hl_len z.2.1 l L A (B - A)
    have hlen1 := hl_len z.2.1 l L A (M - A)
    have hlen2 := hl_len z.2.1 l L M (B - M)
    have lp := rran_lp hzt hd hL (f := f) (t := to) (by omega) hA hB (B - A) 0 (by omega)
    rw [show ((0 : Nat) : Int) = 0 from rfl] at lp
    simp only [h1, h2, h3, Option.bind_some, bne_self_eq_false, cond_false, List.nil_append]
    rw [dec_true (by simp [sizeMax]; omega), dec_true (by simp [sizeMax]; omega), happ, same_ok _ (by omega)]
    simp only [cond_true, Option.bind_some, Bool.not_true, cond_false, hlen, show Int.ofNat (B - A) = ((B - A : Nat) : Int) from rfl, lp, sumC_inr, sane10]
  · rw [dec_false hl']
    simp only [Bool.not_false, cond_true, sane10, Option.bind_some]
end Go.Proofs.Pw
