/- Chapter 10: package recur and its reference, for any layer that is right. -/
import Derived.Test.YtielflihgdebiaaGreatPF
import Derived.Test.YtielflihgdebiaaGreatPE
open Go Go.Lft
namespace Go.Proofs.Pw

theorem step_any {L : LayerT} (h : Rt L) : recur_step L = some (stepD L) := by
  have := h.e0; have := h.e1
  simp only [recur_step, stepD]
  by_cases h2 : L.2.2.2.1 = 2
  · rw [beq_t h2, cond_true, if_pos h2, w64_in (by omega) (by omega)]
  · rw [beq_f h2, cond_false, if_neg h2]

def HVal (r : Option (Int × Bool)) (x : Option Int) : Prop := ∃ v, r = some (v, x.isSome) ∧ ∀ t, x = some t → v = t

theorem recH {o : Int} {l : TrL} (ht : TOk o l) {L : LayerT} (h : Rt L) {k : Int} (hk : 0 ≤ k) (hk2 : k ≤ 8589934592) : HVal (recur_HandoverOf (o, l) L k) (hO o l L k) := by
  have hs := h.step
  have hd0 := h.d0; have hd1 := h.d1; have hc0 := h.c0; have hc1 := h.c1; have he0 := h.e0; have he1 := h.e1
  have hstep : recur_step (L.1, L.2.1, (L.2.2.1.1, L.2.2.1.2), L.2.2.2.1, L.2.2.2.2.1, L.2.2.2.2.2.1, L.2.2.2.2.2.2.1, L.2.2.2.2.2.2.2.1, L.2.2.2.2.2.2.2.2) = _ := step_any h
  simp only [HVal, recur_HandoverOf, hstep, Option.bind_some]
  rw [dec_false (show ¬ k > 8589934592 by omega), cond_false]
  by_cases h0 : L.2.2.2.1 = 0
  · have hF := First_any ht (d := L.2.2.1.1) (c := L.2.2.1.2) (by omega) (by omega) hc0 hc1
    have hs0 : L.2.2.1.1 * 86400 + L.2.2.1.2 = sLoc L 0 := by unfold sLoc; omega
    have hm0 : 0 ≤ 3600 * L.2.2.2.2.1 * k := Int.mul_nonneg (by omega) hk
    have hm1 : 3600 * L.2.2.2.2.1 * k ≤ 3600 * 400 * 8589934592 := Int.mul_le_mul (by omega) hk2 hk (by omega)
    rw [show (L.2.2.2.1 != 0) = false by rw [h0]; rfl, cond_false, hF, hs0]
    simp only [Option.bind_some]
    unfold hO
    rw [if_pos h0]
    cases hf : fO o l (sLoc L 0) with
    | none => exact ⟨_, rfl, fun t h => by simp at h⟩
    | some v =>
      have hv := fO_at ht hf
      simp only [Option.getD_some, Option.isSome_some, cond_true, Option.bind_some, w64_in (x := 3600 * L.2.2.2.2.1) (show -9223372036854775808 ≤ _ by omega) (by omega), w64_in (x := 3600 * L.2.2.2.2.1 * k) (show -9223372036854775808 ≤ _ by omega) (by omega), w64_in (x := v + 3600 * L.2.2.2.2.1 * k) (show -9223372036854775808 ≤ _ by omega) (by omega)]
      by_cases hle : v + 3600 * L.2.2.2.2.1 * k ≤ 8589934592
      · rw [if_pos hle, dec_true hle]
        exact ⟨_, rfl, fun t h => by simpa using h⟩
      · rw [if_neg hle, dec_false hle]
        exact ⟨_, rfl, fun t h => by simp at h⟩
  · have hm0 : 0 ≤ k * stepD L := Int.mul_nonneg hk (by omega)
    have hm1 : k * stepD L ≤ 8589934592 * 2800 := Int.mul_le_mul hk2 hs.2 (by omega) (by omega)
    rw [show (L.2.2.2.1 != 0) = true by simp [h0], cond_true, w64_in (x := k * stepD L) (by omega) (by omega), w64_in (x := L.2.2.1.1 + k * stepD L) (by omega) (by omega), First_any ht (by omega) (by omega) hc0 hc1]
    simp only [Option.bind_some]
    unfold hO
    rw [if_neg h0]
    exact ⟨_, rfl, fun t h => by have h : fO o l ((L.2.2.1.1 + k * stepD L) * 86400 + L.2.2.1.2) = some t := h; rw [h]; rfl⟩

theorem r10H {z : ZoneT} {l : TrL} (hz : Z4 z l) {L : LayerT} (h : Rt L) {k : Int} (hk : 0 ≤ k) (hk2 : k ≤ 8589934592) : HVal (r10_handover z L k) (hO z.2.1 l L k) := by
  have hs := h.step
  have hd0 := h.d0; have hd1 := h.d1; have hc0 := h.c0; have hc1 := h.c1; have he0 := h.e0; have he1 := h.e1; have hu1 := h.u1; have hu0 := h.u0
  simp only [HVal, r10_handover]
  have hm0 : 0 ≤ k * L.2.2.2.2.1 := Int.mul_nonneg hk (by omega)
  have hm1 : k * L.2.2.2.2.1 ≤ 8589934592 * 400 := Int.mul_le_mul hk2 (by omega) (by omega) (by omega)
  rw [w64_in (x := k * L.2.2.2.2.1) (by omega) (by omega)]
  by_cases h0 : L.2.2.2.1 = 0
  · have hF := r4First_any hz (d := L.2.2.1.1) (c := L.2.2.1.2) (by omega) hc0 hc1
    have hs0 : L.2.2.1.1 * 86400 + L.2.2.1.2 = sLoc L 0 := by unfold sLoc; omega
    rw [beq_t h0, cond_true, show r04_First (z.1, (z.2.1, z.2.2)) (L.2.2.1.1, L.2.2.1.2) = _ from hF, hs0]
    simp only [Option.bind_some]
    have hcm : k * L.2.2.2.2.1 * 3600 = 3600 * L.2.2.2.2.1 * k := by rw [Int.mul_comm, Int.mul_comm k, Int.mul_assoc]
    have hm2 : 0 ≤ 3600 * L.2.2.2.2.1 * k := Int.mul_nonneg (by omega) hk
    have hm3 : 3600 * L.2.2.2.2.1 * k ≤ 3600 * 400 * 8589934592 := Int.mul_le_mul (by omega) hk2 hk (by omega)
    rw [hcm, w64_in (x := 3600 * L.2.2.2.2.1 * k) (by omega) (by omega)]
    unfold hO
    rw [if_pos h0]
    cases hf : fO z.2.1 l (sLoc L 0) with
    | none => exact ⟨_, rfl, fun t h => by simp at h⟩
    | some v =>
      have hv := fO_at hz.2 hf
      simp only [Option.bind_some]
      rw [w64_in (x := v + 3600 * L.2.2.2.2.1 * k) (by omega) (by omega), beq_self_eq_true, cond_true]
      by_cases hle : v + 3600 * L.2.2.2.2.1 * k ≤ 8589934592
      · rw [if_pos hle, dec_true hle]
        exact ⟨_, rfl, fun t h => by simpa using h⟩
      · rw [if_neg hle, dec_false hle]
        exact ⟨_, rfl, fun t h => by simp at h⟩
  · rw [beq_f h0, cond_false]
    have fin : ∀ n : Int, n = k * stepD L → 0 ≤ n → HVal ((r04_First (z.1, (z.2.1, z.2.2)) (L.2.2.1.1 + n, L.2.2.1.2)).bind fun r => some (r.1, (r.2 == (0 : Int)))) (hO z.2.1 l L k) := by
      intro n hn hn0
      have hF := r4First_any hz (d := L.2.2.1.1 + n) (c := L.2.2.1.2) (by omega) hc0 hc1
      rw [show r04_First (z.1, (z.2.1, z.2.2)) (L.2.2.1.1 + n, L.2.2.1.2) = _ from hF]
      unfold hO
      rw [if_neg h0]
      have hsl : (L.2.2.1.1 + n) * 86400 + L.2.2.1.2 = sLoc L k := by rw [hn]; rfl
      rw [hsl]
      cases hf : fO z.2.1 l (sLoc L k) with
      | none => exact ⟨_, rfl, fun t h => by simp at h⟩
      | some v => exact ⟨_, rfl, fun t h => by simpa using h⟩
    by_cases h2 : L.2.2.2.1 = 2
    · have hsd : stepD L = 7 * L.2.2.2.2.1 := by unfold stepD; rw [if_pos h2]
      have e1 : k * L.2.2.2.2.1 * 7 = k * stepD L := by rw [hsd, Int.mul_assoc, Int.mul_comm L.2.2.2.2.1 7]
      rw [beq_t h2, cond_true, w64_in (x := k * L.2.2.2.2.1 * 7) (by omega) (by omega), w64_in (x := L.2.2.1.1 + k * L.2.2.2.2.1 * 7) (by omega) (by omega)]
      exact fin _ e1 (by omega)
    · have hsd : stepD L = L.2.2.2.2.1 := by unfold stepD; rw [if_neg h2]
      rw [beq_f h2, cond_false, w64_in (x := L.2.2.1.1 + k * L.2.2.2.2.1) (by omega) (by omega)]
      exact fin _ (by rw [hsd]) hm0

theorem sh_l0 {o : Int} {l : TrL} (ht : TOk o l) {L : LayerT} (h : Rt L) {t N : Int} (hN : N ≤ 8589934592) (hfirst : QO o l L t 0) : ∀ n : Nat, (n : Int) ≤ N →
    ∃ k : Int, recur_ShiftOf_l0 t (n : Int) o l L.1 L.2.1 L.2.2.1.1 L.2.2.1.2 L.2.2.2.1 L.2.2.2.2.1 L.2.2.2.2.2.1 L.2.2.2.2.2.2.1 L.2.2.2.2.2.2.2.1 L.2.2.2.2.2.2.2.2 =
      some (t, k, o, l, L.1, L.2.1, L.2.2.1.1, L.2.2.1.2, L.2.2.2.1, L.2.2.2.2.1, L.2.2.2.2.2.1, L.2.2.2.2.2.2.1, L.2.2.2.2.2.2.2.1, L.2.2.2.2.2.2.2.2) ∧ 0 ≤ k ∧ QO o l L t k
  | 0, _ => by
    rw [recur_ShiftOf_l0_eq]
    simp only [recur_ShiftOf_l0_step]
    rw [dec_false (by omega), cond_false, lpK_inr]
    exact ⟨_, rfl, by omega, hfirst⟩
  | n + 1, hn => by
    obtain ⟨k, e, k0, k1⟩ := sh_l0 ht h hN hfirst n (by omega)
    obtain ⟨v, hH, hv⟩ := recH ht h (k := ((n + 1 : Nat) : Int)) (by omega) (by omega)
    rw [recur_ShiftOf_l0_eq]
    simp only [recur_ShiftOf_l0_step]
    rw [dec_true (by omega), cond_true, show recur_HandoverOf (o, l) (L.1, L.2.1, (L.2.2.1.1, L.2.2.1.2), L.2.2.2.1, L.2.2.2.2.1, L.2.2.2.2.2.1, L.2.2.2.2.2.2.1, L.2.2.2.2.2.2.2.1, L.2.2.2.2.2.2.2.2) ((n + 1 : Nat) : Int) = _ from hH]
    simp only [Option.bind_some]
    rw [w64_in (x := ((n + 1 : Nat) : Int) - 1) (by omega) (by omega), show ((n + 1 : Nat) : Int) - 1 = (n : Int) by omega]
    cases hx : hO o l L ((n + 1 : Nat) : Int) with
    | none =>
      simp only [Option.isSome_none, cond_false, lpK_inl]
      exact ⟨k, e, k0, k1⟩
    | some x =>
      have := hv x hx
      subst this
      simp only [Option.isSome_some, cond_true]
      by_cases hc : v ≤ t
      · rw [dec_true hc, cond_true, lpK_inr]
        exact ⟨_, rfl, by omega, v, hx, hc⟩
      · rw [dec_false hc, cond_false, lpK_inl]
        exact ⟨k, e, k0, k1⟩

theorem sh_l2 {o : Int} {l : TrL} (ht : TOk o l) {L : LayerT} (h : Rt L) {t : Int} : ∀ (n : Nat) (k : Int), k + n = 2386093 → 0 ≤ k → QO o l L t k →
    ∃ K : Int, recur_ShiftOf_l2 t k o l L.1 L.2.1 L.2.2.1.1 L.2.2.1.2 L.2.2.2.1 L.2.2.2.2.1 L.2.2.2.2.2.1 L.2.2.2.2.2.2.1 L.2.2.2.2.2.2.2.1 L.2.2.2.2.2.2.2.2 = some K ∧ 0 ≤ K ∧ QO o l L t K ∧ ¬ QO o l L t (K + 1)
  | 0, k, hn, hk, hq => by
    obtain ⟨v, hv, _⟩ := hq
    have := hO_at ht h hk hv
    omega
  | n + 1, k, hn, hk, hq => by
    obtain ⟨v, hH, hv⟩ := recH ht h (k := k + 1) (by omega) (by omega)
    rw [recur_ShiftOf_l2_eq]
    simp only [recur_ShiftOf_l2_step]
    rw [w64_in (x := k + 1) (by omega) (by omega), show recur_HandoverOf (o, l) (L.1, L.2.1, (L.2.2.1.1, L.2.2.1.2), L.2.2.2.1, L.2.2.2.2.1, L.2.2.2.2.2.1, L.2.2.2.2.2.2.1, L.2.2.2.2.2.2.2.1, L.2.2.2.2.2.2.2.2) (k + 1) = _ from hH]
    simp only [Option.bind_some]
    cases hx : hO o l L (k + 1) with
    | none =>
      simp only [Option.isSome_none, Bool.not_false, cond_true, lpK_inr]
      exact ⟨k, rfl, hk, hq, fun ⟨y, hy, _⟩ => by rw [hx] at hy; simp at hy⟩
    | some x =>
      have := hv x hx
      subst this
      simp only [Option.isSome_some, Bool.not_true, cond_false]
      by_cases hc : v > t
      · rw [dec_true hc, cond_true, lpK_inr]
        exact ⟨k, rfl, hk, hq, fun ⟨y, hy, hyt⟩ => by rw [hx] at hy; simp at hy; omega⟩
      · rw [dec_false hc, cond_false, lpK_inl]
        exact sh_l2 ht h n (k + 1) (by omega) (by omega) ⟨v, hx, by omega⟩

theorem sh_hours {o : Int} {l : TrL} {L : LayerT} (h : Rt L) {t v : Int} (h0 : L.2.2.2.1 = 0) (htt : t ≤ 8589934592) (hf : fO o l (sLoc L 0) = some v) (hvt : v ≤ t) (hv0 : 0 ≤ v) :
    ShO o l L t ((t - v) / (3600 * L.2.2.2.2.1)) ∧ 0 ≤ (t - v) / (3600 * L.2.2.2.2.1) ∧ (t - v) / (3600 * L.2.2.2.2.1) ≤ 8589934592 := by
  have he0 := h.e0; have he1 := h.e1
  have q0 : 0 ≤ (t - v) / (3600 * L.2.2.2.2.1) := Int.ediv_nonneg (by omega) (by omega)
  have q1 : 3600 * L.2.2.2.2.1 * ((t - v) / (3600 * L.2.2.2.2.1)) ≤ t - v := Int.mul_ediv_self_le (by omega)
  have q2 : t - v < 3600 * L.2.2.2.2.1 * ((t - v) / (3600 * L.2.2.2.2.1)) + 3600 * L.2.2.2.2.1 := Int.lt_mul_ediv_self_add (by omega)
  have q3 : (t - v) / (3600 * L.2.2.2.2.1) ≤ t - v := Int.ediv_le_self _ (by omega)
  generalize (t - v) / (3600 * L.2.2.2.2.1) = K at *
  refine ⟨.inr ⟨q0, ⟨v + 3600 * L.2.2.2.2.1 * K, ?_, by omega⟩, ?_⟩, q0, by omega⟩
  · unfold hO
    rw [if_pos h0, hf]
    simp only [Option.bind_some]
    rw [if_pos (by omega)]
  · rintro ⟨y, hy, hyt⟩
    unfold hO at hy
    rw [if_pos h0, hf] at hy
    simp only [Option.bind_some, Int.mul_add, Int.mul_one] at hy
    split at hy
    · simp at hy; omega
    · simp at hy

theorem hO_zero {o : Int} {l : TrL} {L : LayerT} (h0 : L.2.2.2.1 = 0) {v : Int} (hv : hO o l L 0 = some v) : fO o l (sLoc L 0) = some v := by
  unfold hO at hv
  rw [if_pos h0] at hv
  cases hf : fO o l (sLoc L 0) with
  | none => rw [hf] at hv; simp at hv
  | some x =>
    rw [hf] at hv
    simp only [Option.bind_some, Int.mul_zero, Int.add_zero] at hv
    split at hv
    · simpa using hv
    · simp at hv

theorem recSh {o : Int} {l : TrL} (ht : TOk o l) {L : LayerT} (h : Rt L) {t : Int} (h0t : 0 ≤ t) (htt : t ≤ 8589934592) : ∃ K : Int, recur_ShiftOf (o, l) L t = some K ∧ ShO o l L t K := by
  have hs := h.step
  have hd0 := h.d0; have hd1 := h.d1; have he0 := h.e0; have he1 := h.e1
  obtain ⟨v0, hH, hv⟩ := recH ht h (k := 0) (by omega) (by omega)
  have hstep : recur_step (L.1, L.2.1, (L.2.2.1.1, L.2.2.1.2), L.2.2.2.1, L.2.2.2.2.1, L.2.2.2.2.2.1, L.2.2.2.2.2.2.1, L.2.2.2.2.2.2.2.1, L.2.2.2.2.2.2.2.2) = _ := step_any h
  simp only [recur_ShiftOf, show recur_HandoverOf (o, l) (L.1, L.2.1, (L.2.2.1.1, L.2.2.1.2), L.2.2.2.1, L.2.2.2.2.1, L.2.2.2.2.2.1, L.2.2.2.2.2.2.1, L.2.2.2.2.2.2.2.1, L.2.2.2.2.2.2.2.2) 0 = _ from hH, hstep, Option.bind_some]
  cases hx : hO o l L 0 with
  | none =>
    simp only [Option.isSome_none, Bool.not_false, cond_true]
    exact ⟨-1, rfl, .inl ⟨rfl, fun ⟨y, hy, _⟩ => by rw [hx] at hy; simp at hy⟩⟩
  | some v =>
    have := hv v hx
    subst this
    simp only [Option.isSome_some, Bool.not_true, cond_false]
    by_cases hc : v0 > t
    · rw [dec_true hc, cond_true]
      exact ⟨-1, rfl, .inl ⟨rfl, fun ⟨y, hy, hyt⟩ => by rw [hx] at hy; simp at hy; omega⟩⟩
    · rw [dec_false hc, cond_false]
      have hq : QO o l L t 0 := ⟨v0, hx, by omega⟩
      have hva := hO_at ht h (k := 0) (by omega) hx
      by_cases h0 : L.2.2.2.1 = 0
      · obtain ⟨s1, s2, s3⟩ := sh_hours (o := o) (l := l) h h0 htt (hO_zero h0 hx) (by omega) hva.1
        rw [beq_t h0, cond_true, w64_in (x := t - v0) (by omega) (by omega), w64_in (x := 3600 * L.2.2.2.2.1) (by omega) (by omega), beq_f (show ¬ 3600 * L.2.2.2.2.1 = 0 by omega), Int.tdiv_eq_ediv_of_nonneg (by omega), w64_in (x := (t - v0) / (3600 * L.2.2.2.2.1)) (by omega) (by omega)]
        exact ⟨_, rfl, s1⟩
      · obtain ⟨j, hj, j1, j2⟩ := ex_piece ht h0t htt
        have o0 := ht.of0 j hj; have o1 := ht.of1 j hj
        rw [beq_f h0, cond_false, Local_ok ht hj j1 j2]
        simp only [Option.bind_some]
        generalize hld : (t + tof o l j) / 86400 = ld
        rw [beq_f (show ¬ stepD L = 0 by omega), w64_in (x := ld - L.2.2.1.1) (by omega) (by omega)]
        simp only [Bool.not_false, cond_true]
        obtain ⟨n, hn, hn2⟩ : ∃ n : Nat, (if w64 (Int.tdiv (ld - L.2.2.1.1) (stepD L)) > 0 then w64 (Int.tdiv (ld - L.2.2.1.1) (stepD L)) else 0) = (n : Int) ∧ (n : Int) ≤ 8589934592 := by
          by_cases hneg : 0 ≤ ld - L.2.2.1.1
          · rw [Int.tdiv_eq_ediv_of_nonneg hneg]
            have q0 : 0 ≤ (ld - L.2.2.1.1) / stepD L := Int.ediv_nonneg hneg (by omega)
            have q1 : (ld - L.2.2.1.1) / stepD L ≤ ld - L.2.2.1.1 := Int.ediv_le_self _ hneg
            rw [w64_in (by omega) (by omega)]
            refine ⟨((ld - L.2.2.1.1) / stepD L).toNat, ?_, ?_⟩
            · split <;> omega
            · omega
          · have e : Int.tdiv (ld - L.2.2.1.1) (stepD L) = -((-(ld - L.2.2.1.1)) / stepD L) := by
              rw [← Int.tdiv_eq_ediv_of_nonneg (by omega), Int.neg_tdiv, Int.neg_neg]
            have q0 : 0 ≤ (-(ld - L.2.2.1.1)) / stepD L := Int.ediv_nonneg (by omega) (by omega)
            have q1 : (-(ld - L.2.2.1.1)) / stepD L ≤ -(ld - L.2.2.1.1) := Int.ediv_le_self _ (by omega)
            rw [e, w64_in (by omega) (by omega), if_neg (by omega)]
            exact ⟨0, rfl, by omega⟩
        rw [hn]
        obtain ⟨k, e, k0, k1⟩ := sh_l0 ht h (Int.le_refl _) hq n hn2
        have hkb := k1
        obtain ⟨y, hy, _⟩ := hkb
        have hkk := hO_at ht h k0 hy
        obtain ⟨K, e2, K0, K1, K2⟩ := sh_l2 ht h (t := t) (2386093 - k).toNat k (by omega) k0 k1
        simp only [e, Option.bind_some, e2]
        exact ⟨K, rfl, .inr ⟨K0, K1, K2⟩⟩
end Go.Proofs.Pw

/- Chapter 11: who is on duty in a layer. -/
open Go Go.Lft
namespace Go.Proofs.Pw

def tb (z : ZoneT) : Int × TrL := (z.2.1, outT z.2.1 (isort (occs z.2.2)))

theorem ZOk.tb {z : ZoneT} (h : ZOk z) : ZTab z (tb z).2 ∧ Z4 z (tb z).2 ∧ Dif z.2.1 (tb z).2 :=
  ⟨MZ.tab (o := z.2.1) (rs := z.2.2) h z.1, MZ.r4 (o := z.2.1) (rs := z.2.2) h z.1, dif_out _ _ _ (MZ.good h)⟩

theorem tabs_lp {zs : List ZoneT} (h : ∀ z ∈ zs, ZOk z) (hl : zs.length ≤ 100) : ∀ (n i : Nat), i + n = zs.length → zone_Tables_l0 zs (zs.length : Int) (i : Int) ((zs.take i).map tb) = some (zs.map tb)
  | 0, i, hi => by
    rw [zone_Tables_l0_eq]
    simp only [zone_Tables_l0_step]
    rw [dec_false (by omega), cond_false, lpK_inr, List.take_of_length_le (by omega)]
  | n + 1, i, hi => by
    have hlt : i < zs.length := by omega
    have hgd : zs.getD i (ByteArray.empty, ((0 : Int), ([] : List Rule))) = zs[i] := by simp [hlt]
    have ht := Of_ok (h zs[i] (List.getElem_mem hlt)).tb.1
    have ih := tabs_lp h hl n (i + 1) (by omega)
    rw [List.take_add_one, List.getElem?_eq_getElem hlt, List.map_append] at ih
    rw [zone_Tables_l0_eq]
    simp only [zone_Tables_l0_step]
    rw [dec_true (by omega), inR_t (by omega) (by omega), w64_in (x := (i : Int) + 1) (by omega) (by omega)]
    simp only [cond_true, Int.toNat_natCast, hgd]
    rw [show zone_Of (zs[i].1, (zs[i].2.1, zs[i].2.2)) = _ from ht]
    simp only [Option.bind_some]
    rw [dec_true (by simp [sizeMax]; omega), cond_true, lpK_inl]
    exact ih

theorem view_ok {zs : List ZoneT} (h : ∀ z ∈ zs, ZOk z) (hl : zs.length ≤ 100) {ps : List PersonT} {cs : List CalT} {ss : List SchedT} : duty_view (zs, (ps, (cs, ss))) = some ((zs, (ps, (cs, ss))), zs.map tb) := by
  have lp := tabs_lp h hl zs.length 0 (by omega)
  simp only [duty_view, zone_Tables, show Int.ofNat zs.length = (zs.length : Int) from rfl]
  rw [show zone_Tables_l0 zs (zs.length : Int) 0 [] = _ from lp]
  rfl

theorem tb_get {zs : List ZoneT} {i : Int} (h0 : 0 ≤ i) (h1 : i < (zs.length : Int)) : List.getD (zs.map tb) i.toNat ((0 : Int), ([] : TrL)) = tb (zs.getD i.toNat (ByteArray.empty, ((0 : Int), ([] : List Rule)))) := by
  have hlt : i.toNat < zs.length := by omega
  simp [List.getD_eq_getElem?_getD, hlt]

theorem zget {zs : List ZoneT} (h : ∀ z ∈ zs, ZOk z) {i : Int} (h0 : 0 ≤ i) (h1 : i < (zs.length : Int)) : ZOk (zs.getD i.toNat (ByteArray.empty, ((0 : Int), ([] : List Rule)))) := by
  have hlt : i.toNat < zs.length := by omega
  rw [List.getD_eq_getElem?_getD, List.getElem?_eq_getElem hlt]
  exact h _ (List.getElem_mem hlt)

theorem less_int (a b : Int) : cmp_Less_int a b = some (decide (a < b)) := by
  simp only [cmp_Less_int, cmp_isNaN_int, Option.bind_some, bne_self_eq_false, cond_false]

theorem bs_lp {ds : List Int} (hs : ds.Pairwise (· < ·)) (hl : ds.length ≤ 64) {x : Int} : ∀ (n a b : Nat), b - a ≤ n → a ≤ b → b ≤ ds.length → (∀ i, (hi : i < ds.length) → i < a → ds[i] < x) → (∀ i, (hi : i < ds.length) → b ≤ i → x ≤ ds[i]) →
    ∃ k : Nat, slices_BinarySearch_int_int_l0 ds x (ds.length : Int) (a : Int) (b : Int) = some (ds, x, (ds.length : Int), (k : Int)) ∧ k ≤ ds.length ∧ (∀ i, (hi : i < ds.length) → i < k → ds[i] < x) ∧ ∀ i, (hi : i < ds.length) → k ≤ i → x ≤ ds[i]
  | n, a, b, hn, hab, hb, h1, h2 => by
    rw [slices_BinarySearch_int_int_l0_eq]
    simp only [slices_BinarySearch_int_int_l0_step]
    by_cases hlt : a < b
    · have hm : IntKind.wrap .u64 ((a : Int) + (b : Int)) = (a : Int) + (b : Int) := IntWalk.u64_in _ ⟨by omega, by omega⟩
      have hd : Int.fdiv ((a : Int) + (b : Int)) 2 = (((a + b) / 2 : Nat) : Int) := by
        rw [Int.fdiv_eq_ediv_of_nonneg _ (by omega)]; omega
      have hml : (a + b) / 2 < ds.length := by omega
      have hgd : ds.getD ((a + b) / 2) (0 : Int) = ds[(a + b) / 2] := by simp [hml]
      rw [dec_true (show (a : Int) < (b : Int) by omega), w64_in (x := (a : Int) + (b : Int)) (by omega) (by omega), hm, hd, w64_in (x := (((a + b) / 2 : Nat) : Int)) (by omega) (by omega), inR_t (by omega) (by omega), w64_in (x := (((a + b) / 2 : Nat) : Int) + 1) (by omega) (by omega)]
      simp only [cond_true, Int.toNat_natCast, hgd, less_int, Option.bind_some]
      cases n with
      | zero => omega
      | succ n =>
        by_cases hc : ds[(a + b) / 2] < x
        · rw [dec_true hc, cond_true, lpK_inl]
          refine bs_lp hs hl n ((a + b) / 2 + 1) b (by omega) (by omega) hb (fun i hi hia => ?_) h2
          by_cases he : i = (a + b) / 2
          · subst he; exact hc
          · exact Int.lt_trans (List.pairwise_iff_getElem.1 hs i ((a + b) / 2) hi hml (by omega)) hc
        · rw [dec_false hc, cond_false, lpK_inl]
          refine bs_lp hs hl n a ((a + b) / 2) (by omega) (by omega) (by omega) h1 (fun i hi hia => ?_)
          by_cases he : i = (a + b) / 2
          · subst he; exact Int.not_lt.1 hc
          · exact Int.le_trans (Int.not_lt.1 hc) (Int.le_of_lt (List.pairwise_iff_getElem.1 hs ((a + b) / 2) i hml hi (by omega)))
    · have : a = b := by omega
      subst this
      rw [dec_false (by omega), cond_false, lpK_inr]
      exact ⟨a, rfl, hb, h1, h2⟩

theorem bs_ok {ds : List Int} (hs : ds.Pairwise (· < ·)) (hl : ds.length ≤ 64) (x : Int) : ∃ i, slices_BinarySearch_int_int ds x = some (i, decide (x ∈ ds)) := by
  obtain ⟨k, e, hk, h1, h2⟩ := bs_lp hs hl (x := x) ds.length 0 ds.length (by omega) (by omega) (Nat.le_refl _) (fun i _ h => by omega) (fun i hi h => by omega)
  rw [show ((0 : Nat) : Int) = 0 from rfl] at e
  simp only [slices_BinarySearch_int_int, show Int.ofNat ds.length = (ds.length : Int) from rfl, e, Option.bind_some, Int.toNat_natCast]
  by_cases hkl : k < ds.length
  · have hgd : ds.getD k (0 : Int) = ds[k] := by simp [hkl]
    rw [inR_t (by omega) (by omega), dec_true (show (k : Int) < (ds.length : Int) by omega), hgd]
    simp only [Bool.true_or, cond_true]
    by_cases hx : ds[k] = x
    · rw [beq_t hx]
      rw [dec_true (show x ∈ ds from hx ▸ List.getElem_mem hkl)]
      exact ⟨_, rfl⟩
    · rw [beq_f hx]
      have hn : ¬ x ∈ ds := by
        intro hm
        obtain ⟨i, hi, rfl⟩ := List.getElem_of_mem hm
        rcases Nat.lt_trichotomy i k with h | h | h
        · have := h1 i hi h; omega
        · subst h; exact hx rfl
        · have a1 := h2 k hkl (Nat.le_refl _)
          have a2 := List.pairwise_iff_getElem.1 hs k i hkl hi h
          omega
      rw [dec_false hn]
      simp only [cond_false, slices_isNaN_int, Option.bind_some, bne_self_eq_false]
      exact ⟨_, rfl⟩
  · have hn : ¬ x ∈ ds := by
      intro hm
      obtain ⟨i, hi, rfl⟩ := List.getElem_of_mem hm
      have := h1 i hi (by omega)
      omega
    rw [dec_false hn, dec_false (show ¬ (k : Int) < (ds.length : Int) by omega)]
    simp only [Bool.not_false, Bool.or_true, cond_true, cond_false, Bool.false_and]
    exact ⟨_, rfl⟩

def okW (w : WL) (s : Int) : Bool := cond (decide ((w.length : Int) > 0)) (hasB s w) true

section
variable {zs : List ZoneT} {ps : List PersonT} {cs : List CalT} {ss : List SchedT} (hz : ∀ z ∈ zs, ZOk z)
include hz

theorem OnV_ok {L : LayerT} (hL : LCk zs.length ps.length cs.length L) (hRt : Rt L) {t : Int} (h0 : 0 ≤ t) (h1 : t ≤ 8589934592) {z : ZoneT} (hzz : zs.getD L.2.1.toNat (ByteArray.empty, ((0 : Int), ([] : List Rule))) = z)
    {s : Int} {d : Int × Int} (hd : zone_Table_Local (tb z) t = some d) (hs : week_SecondOf d = some s) {K : Int} (hK : recur_ShiftOf (tb z) L t = some K) (b : Bool)
    (hcal : L.2.2.2.2.2.2.2.2 = 0 → b = true) (hcal2 : L.2.2.2.2.2.2.2.2 ≠ 0 → ∃ x : CalT, cs.getD L.2.2.2.2.2.2.2.1.toNat (ByteArray.empty, ((0 : Int), ([] : List Int))) = x ∧ CCk zs.length x ∧ ∃ d', zone_Table_Local (tb (zs.getD x.2.1.toNat (ByteArray.empty, ((0 : Int), ([] : List Rule))))) t = some d' ∧ b = (decide (d'.1 ∈ x.2.2) == (L.2.2.2.2.2.2.2.2 == (2 : Int)))) :
    ∃ r, duty_View_On ((zs, (ps, (cs, ss))), zs.map tb) L t = some (r, cond (decide (0 ≤ K)) (cond (okW L.2.2.2.2.2.2.1 s) b false) false) ∧ (cond (decide (0 ≤ K)) (cond (okW L.2.2.2.2.2.2.1 s) b false) false = true → r = K) := by
  have _ := hz; have _ := hRt
  have hwl := hL.wl
  have hlen : (zs.map tb).length = zs.length := List.length_map ..
  have hg := tb_get (zs := zs) hL.z0 hL.z1
  rw [hzz] at hg
  simp only [duty_View_On]
  rw [dec_false (show ¬ t < 0 by omega), dec_false (show ¬ t > 8589934592 by omega), inR_t hL.z0 (by rw [hlen]; exact hL.z1)]
  simp only [cond_false, cond_true, hg]
  rw [show recur_ShiftOf ((tb z).1, (tb z).2) (L.1, L.2.1, (L.2.2.1.1, L.2.2.1.2), L.2.2.2.1, L.2.2.2.2.1, L.2.2.2.2.2.1, L.2.2.2.2.2.2.1, L.2.2.2.2.2.2.2.1, L.2.2.2.2.2.2.2.2) t = _ from hK]
  simp only [Option.bind_some]
  by_cases hk : 0 ≤ K
  · rw [dec_false (show ¬ K < 0 by omega), dec_true hk]
    simp only [cond_false, cond_true, show Int.ofNat L.2.2.2.2.2.2.1.length = (L.2.2.2.2.2.2.1.length : Int) from rfl]
    have tail : ∃ r, (cond (L.2.2.2.2.2.2.2.2 == (0 : Int)) (some (K, true)) (cond (inR L.2.2.2.2.2.2.2.1 cs.length) (cond (inR (cs.getD L.2.2.2.2.2.2.2.1.toNat (ByteArray.empty, ((0 : Int), ([] : List Int)))).2.1 (zs.map tb).length) ((zone_Table_Local ((List.getD (zs.map tb) (cs.getD L.2.2.2.2.2.2.2.1.toNat (ByteArray.empty, ((0 : Int), ([] : List Int)))).2.1.toNat ((0 : Int), ([] : TrL))).1, (List.getD (zs.map tb) (cs.getD L.2.2.2.2.2.2.2.1.toNat (ByteArray.empty, ((0 : Int), ([] : List Int)))).2.1.toNat ((0 : Int), ([] : TrL))).2) t).bind fun r68 =>
        (slices_BinarySearch_int_int (cs.getD L.2.2.2.2.2.2.2.1.toNat (ByteArray.empty, ((0 : Int), ([] : List Int)))).2.2 r68.1).bind fun r70 => some (K, (r70.2 == (L.2.2.2.2.2.2.2.2 == (2 : Int))))) none) none)) = some (r, b) ∧ (b = true → r = K) := by
      by_cases hm : L.2.2.2.2.2.2.2.2 = 0
      · rw [beq_t hm, cond_true, hcal hm]
        exact ⟨K, rfl, fun _ => rfl⟩
      · obtain ⟨x, hx, hxc, d', hd', hb⟩ := hcal2 hm
        have hc := hL.cal hm
        obtain ⟨i, hi⟩ := bs_ok hxc.asc hxc.len d'.1
        have hg2 := tb_get (zs := zs) hxc.z0 hxc.z1
        rw [beq_f hm, cond_false, inR_t hc.1 hc.2, hx, inR_t hxc.z0 (by rw [hlen]; exact hxc.z1)]
        simp only [cond_true, hg2]
        rw [show zone_Table_Local ((tb (zs.getD x.2.1.toNat (ByteArray.empty, ((0 : Int), ([] : List Rule))))).1, (tb (zs.getD x.2.1.toNat (ByteArray.empty, ((0 : Int), ([] : List Rule))))).2) t = _ from hd']
        simp only [Option.bind_some, hi]
        rw [← hb]
        exact ⟨K, rfl, fun _ => rfl⟩
    by_cases hw : (L.2.2.2.2.2.2.1.length : Int) > 0
    · rw [dec_true hw, cond_true, show zone_Table_Local ((tb z).1, (tb z).2) t = _ from hd]
      simp only [Option.bind_some, show week_SecondOf (d.1, d.2) = _ from hs, Has_ok hwl, okW]
      rw [dec_true hw, cond_true]
      cases hh : hasB s L.2.2.2.2.2.2.1 with
      | true =>
        simp only [Bool.not_true, cond_false, cond_true]
        exact tail
      | false => exact ⟨0, rfl, fun h => by simp at h⟩
    · simp only [okW]
      rw [dec_false hw]
      simp only [cond_false, cond_true]
      exact tail
  · rw [dec_true (show K < 0 by omega), dec_false hk]
    exact ⟨0, rfl, fun h => by simp at h⟩

def whoL (L : LayerT) (K : Int) : Int := L.2.2.2.2.2.1.getD (Int.tmod K (L.2.2.2.2.2.1.length : Int)).toNat 0

omit hz in
theorem PersV_ok {v : CfgT × List (Int × TrL)} {L : LayerT} {t r K : Int} {b : Bool} (hm : L.2.2.2.2.2.1.length ≠ 0) (e : duty_View_On v L t = some (r, b)) (hr : b = true → r = K) (hK : b = true → 0 ≤ K) :
    duty_View_Person v L t = some (cond b (whoL L K) (-1)) := by
  simp only [duty_View_Person, show duty_View_On ((v.1.1, v.1.2.1, v.1.2.2.1, v.1.2.2.2), v.2) (L.1, L.2.1, (L.2.2.1.1, L.2.2.1.2), L.2.2.2.1, L.2.2.2.2.1, L.2.2.2.2.2.1, L.2.2.2.2.2.2.1, L.2.2.2.2.2.2.2.1, L.2.2.2.2.2.2.2.2) t = _ from e, Option.bind_some]
  cases b with
  | false => rfl
  | true =>
    have := hr rfl
    subst this
    have hk := hK rfl
    have q1 : 0 ≤ Int.tmod r (L.2.2.2.2.2.1.length : Int) := Int.tmod_nonneg _ hk
    have q2 : Int.tmod r (L.2.2.2.2.2.1.length : Int) < (L.2.2.2.2.2.1.length : Int) := Int.tmod_lt_of_pos _ (by omega)
    simp only [Bool.not_true, cond_false, cond_true, show Int.ofNat L.2.2.2.2.2.1.length = (L.2.2.2.2.2.1.length : Int) from rfl, whoL]
    rw [beq_f (show ¬ (L.2.2.2.2.2.1.length : Int) = 0 by omega), inR_t q1 q2]
    rfl
end

theorem LCk.rt {nz np nc : Nat} {L : LayerT} (h : LCk nz np nc L) (hd : L.2.2.1.1 ≤ 100000) : Rt L :=
  ⟨h.d0, hd, h.c0, h.c1, h.u0, h.u1, h.e0, h.e1, fun hn => h.m0 (by rw [hn]; rfl)⟩

theorem sec_ok {z : ZoneT} (hz : ZOk z) {t : Int} (h0 : 0 ≤ t) (h1 : t ≤ 8589934592) : ∃ d s, zone_Table_Local (tb z) t = some d ∧ week_SecondOf d = some s := by
  obtain ⟨ht, _, _⟩ := hz.tb
  obtain ⟨j, hj, j1, j2⟩ := ex_piece ht.2 h0 h1
  have o0 := ht.2.of0 j hj; have o1 := ht.2.of1 j hj
  obtain ⟨s, hs⟩ : ∃ s, week_SecondOf ((t + tof z.2.1 (tb z).2 j) / 86400, (t + tof z.2.1 (tb z).2 j) % 86400) = some s := by
    simp only [week_SecondOf, Weekday_eq, Option.bind_some]
    exact ⟨_, rfl⟩
  exact ⟨_, s, Local_ok ht.2 hj j1 j2, hs⟩
end Go.Proofs.Pw

/- Chapter 10: what the reference checks. -/
open Go Go.Lft
namespace Go.Proofs.Pw

instance (L : LayerT) : Decidable (Rt L) :=
  decidable_of_iff (1 ≤ L.2.2.1.1 ∧ L.2.2.1.1 ≤ 100000 ∧ 0 ≤ L.2.2.1.2 ∧ L.2.2.1.2 ≤ 86399 ∧ 0 ≤ L.2.2.2.1 ∧ L.2.2.2.1 ≤ 2 ∧ 1 ≤ L.2.2.2.2.1 ∧ L.2.2.2.2.1 ≤ 400 ∧ L.2.2.2.2.2.1 ≠ [])
    ⟨fun ⟨a, b, c, d, e, f, g, h, i⟩ => ⟨a, b, c, d, e, f, g, h, i⟩, fun ⟨a, b, c, d, e, f, g, h, i⟩ => ⟨a, b, c, d, e, f, g, h, i⟩⟩

section
variable {z : ZoneT} {l : TrL} (h4 : Z4 z l)
include h4

theorem check10_any (L : LayerT) : r10_Check z L = some (if Rt L then 0 else 8) := by
  have hc : r04_Check (z.1, (z.2.1, z.2.2)) = some 0 := by
    simp only [r04_Check, show r04_Transitions (z.1, (z.2.1, z.2.2)) = _ from h4.1, Option.bind_some]
  simp only [r10_Check, hc, Option.bind_some, bne_self_eq_false, cond_false]
  have key : (cond (cond (cond (cond (cond (cond (cond (cond (decide (L.2.2.1.1 < 1)) true (decide (L.2.2.1.1 > 100000))) true (decide (L.2.2.1.2 < 0))) true (decide (L.2.2.1.2 ≥ 86400))) true (decide (L.2.2.2.1 < 0))) true (decide (L.2.2.2.1 > 2))) true (decide (L.2.2.2.2.1 < 1))) true (decide (L.2.2.2.2.1 > 400))) true (Int.ofNat L.2.2.2.2.2.1.length == 0)) = !decide (Rt L) := by
    have hlen : (Int.ofNat L.2.2.2.2.2.1.length == 0) = decide (L.2.2.2.2.2.1 = []) := by
      cases L.2.2.2.2.2.1 with
      | nil => rfl
      | cons x r => simp; omega
    rw [hlen]
    rw [Bool.eq_iff_iff]
    simp only [Bool.not_eq_true', decide_eq_false_iff_not]
    constructor
    · intro hh h
      have a1 := h.d0; have a2 := h.d1; have a3 := h.c0; have a4 := h.c1; have a5 := h.u0; have a6 := h.u1; have a7 := h.e0; have a8 := h.e1
      rw [dec_false (show ¬ L.2.2.1.1 < 1 by omega), dec_false (show ¬ L.2.2.1.1 > 100000 by omega), dec_false (show ¬ L.2.2.1.2 < 0 by omega), dec_false (show ¬ L.2.2.1.2 ≥ 86400 by omega), dec_false (show ¬ L.2.2.2.1 < 0 by omega), dec_false (show ¬ L.2.2.2.1 > 2 by omega), dec_false (show ¬ L.2.2.2.2.1 < 1 by omega), dec_false (show ¬ L.2.2.2.2.1 > 400 by omega), dec_false h.m0] at hh
      simp at hh
    · intro hn
      by_cases a1 : L.2.2.1.1 < 1
      · rw [dec_true a1]; rfl
      rw [dec_false a1]
      by_cases a2 : L.2.2.1.1 > 100000
      · rw [dec_true a2]; rfl
      rw [dec_false a2]
      by_cases a3 : L.2.2.1.2 < 0
      · rw [dec_true a3]; rfl
      rw [dec_false a3]
      by_cases a4 : L.2.2.1.2 ≥ 86400
      · rw [dec_true a4]; rfl
      rw [dec_false a4]
      by_cases a5 : L.2.2.2.1 < 0
      · rw [dec_true a5]; rfl
      rw [dec_false a5]
      by_cases a6 : L.2.2.2.1 > 2
      · rw [dec_true a6]; rfl
      rw [dec_false a6]
      by_cases a7 : L.2.2.2.2.1 < 1
      · rw [dec_true a7]; rfl
      rw [dec_false a7]
      by_cases a8 : L.2.2.2.2.1 > 400
      · rw [dec_true a8]; rfl
      rw [dec_false a8]
      by_cases a9 : L.2.2.2.2.2.1 = []
      · rw [dec_true a9]; rfl
      exact absurd ⟨by omega, by omega, by omega, by omega, by omega, by omega, by omega, by omega, a9⟩ hn
  rw [key]
  by_cases h : Rt L
  · rw [dec_true h, if_pos h]; rfl
  · rw [dec_false h, if_neg h]; rfl

end
end Go.Proofs.Pw
