/- Chapter 10: the laws RecurCivil and RecurSame, on plain functions. -/
import Derived.Test.YtpkigeapefgmjaaPD
import Derived.Test.YtpkigeapefgmjaaPF
import Derived.Test.YtpkigeapefgmjaaPB
import Derived.Test.YtpkigeapefgmjaaLD
open Go Go.Lft
namespace Go.Proofs.Pw

theorem ZOk.both {z : ZoneT} (h : ZOk z) : ∃ l, ZTab z l ∧ Z4 z l ∧ Dif z.2.1 l :=
  ⟨_, MZ.tab (o := z.2.1) (rs := z.2.2) h z.1, MZ.r4 (o := z.2.1) (rs := z.2.2) h z.1, dif_out _ _ _ (MZ.good h)⟩

section
variable {o : Int} {l : TrL} (h : TOk o l)
include h

/-- The first instant is one with this local time, and the first of them; or the clock leaps over it. -/
theorem sols_first {s t : Int} {k : Nat} (hs : 200000 < s) (f : Fst o l s t k) : (sols o l s ≠ [] ∧ (sols o l s).getD 0 0 = t ∧ t + tof o l k = s) ∨
    (sols o l s = [] ∧ ∃ j, k = j + 1 ∧ t = frm l k ∧ s < t + tof o l k ∧ t + tof o l j ≤ s ∧ tof o l j < tof o l k) := by
  have hk := f.hk
  have pre : ∀ n j, j + n = k → ∀ m, solsF o l s j (n + m) = solsF o l s k m := by
    intro n
    induction n with
    | zero => intro j hj m; simp at hj; subst hj; simp
    | succ n ih =>
      intro j hj m
      rw [show n + 1 + m = (n + m) + 1 by omega]
      simp only [solsF]
      have hb := f.bef j (by omega)
      rw [if_neg (fun hsol : Sol o l s j => by have := hsol.2; omega), ih (j + 1) (by omega) m]
      rfl
  have hsplit : sols o l s = solsF o l s k (l.length - k + 1) := by
    unfold sols
    rw [show l.length + 1 = k + (l.length - k + 1) by omega]
    exact pre k 0 (by omega) _
  have ht := f.ht
  have hks := f.hks
  rw [hsplit]
  by_cases hc : frm l k ≤ s - tof o l k
  · left
    have hsol : Sol o l s k := ⟨hc, hks⟩
    simp only [solsF, if_pos hsol]
    refine ⟨by simp, ?_, by omega⟩
    simp; omega
  · right
    have hk0 : k ≠ 0 := by
      rintro rfl
      have e0 : frm l 0 = 0 := frm0
      have o2 := h.of1 0 (by omega)
      omega
    obtain ⟨j, rfl⟩ : ∃ j, k = j + 1 := ⟨k - 1, by omega⟩
    have hb := f.bef j (by omega)
    have none' : ∀ n q, j + 1 ≤ q → q + n = l.length + 1 → solsF o l s q n = [] := by
      intro n
      induction n with
      | zero => intro q _ _; rfl
      | succ n ih =>
        intro q hq hqn
        simp only [solsF]
        have hno : ¬ Sol o l s q := by
          intro hsol
          have h1 := hsol.1
          by_cases hqk : q = j + 1
          · subst hqk; omega
          · have hgap := h.frm_gap (i := j + 1) (j := q) (by omega) (by omega) (by omega)
            have a1 := h.of0 q (by omega); have a2 := h.of1 (j + 1) hk
            omega
        rw [if_neg hno, ih (q + 1) (by omega) (by omega)]
        rfl
    refine ⟨none' _ _ (Nat.le_refl _) (by omega), j, rfl, by omega, by omega, by omega, by omega⟩
end

theorem law10_sane_t : law10_sane = some true := sane10

/-- A handover up to some years, of layers that begin anywhere. -/
theorem Handover_lr {z : ZoneT} {l : TrL} (hz : ZTab z l) {L : LayerT} (h : LR L) {k : Int} (hk : 0 ≤ k) (hk2 : L.2.2.2.1 = 0 → k ≤ 20000) (hk3 : L.2.2.2.1 ≠ 0 → k * stepD L ≤ 50000) : recur_Handover z L k = some (hov z.2.1 l L k, 0) := by
  have hH := HandoverOf_ok hz.2 h hk hk2 hk3
  simp only [recur_Handover, show recur_open (z.1, z.2.1, z.2.2) (L.1, L.2.1, (L.2.2.1.1, L.2.2.1.2), L.2.2.2.1, L.2.2.2.2.1, L.2.2.2.2.2.1, L.2.2.2.2.2.2.1, L.2.2.2.2.2.2.2.1, L.2.2.2.2.2.2.2.2) = _ from ropen_ok hz h, Option.bind_some, Bool.not_true, cond_false]
  rw [dec_false (show ¬ k < 0 by omega), cond_false]
  simp only [show recur_HandoverOf (z.2.1, l) (L.1, L.2.1, (L.2.2.1.1, L.2.2.1.2), L.2.2.2.1, L.2.2.2.2.1, L.2.2.2.2.2.1, L.2.2.2.2.2.2.1, L.2.2.2.2.2.2.2.1, L.2.2.2.2.2.2.2.2) k = _ from hH, Option.bind_some, Bool.not_true, cond_false]

theorem RecurCivil_true (t : List Int) (_h : Wf (.list (.int .i64)) t) (n : Int) (_h2 : Wf (.int .i64) n) : law10_RecurCivil t n = some true := by
  simp only [law10_RecurCivil, made_Light, Option.bind_some, show Int.ofNat (List.length t) = (t.length : Int) from rfl]
  by_cases hl : (t.length : Int) ≤ 500
  · rw [dec_true hl]
    simp only [Bool.not_true, cond_false, made_Roll, Option.bind_some]
    obtain ⟨zs, ps, cs, a1, e1, hs, d1⟩ := Staff_ok (L := t) (a := 0) ⟨by omega, by omega, by omega⟩
    obtain ⟨L, a2, e2, hL, z0, z1, d2⟩ := Layer_ok d1 hs (ss := []) (ByteArray.mk #[97])
    have hz1 := hs.z1
    have hlt : L.2.1.toNat < zs.length := by omega
    have hz : ZOk (zs.getD L.2.1.toNat (ByteArray.empty, ((0 : Int), ([] : List Rule)))) := by
      rw [List.getD_eq_getElem?_getD, List.getElem?_eq_getElem hlt]
      exact hs.ok _ (List.getElem_mem hlt)
    obtain ⟨l, hzt, hz4, hd⟩ := hz.both
    simp only [e1, e2, Option.bind_some, Mod_eq n 90 (by omega) (by omega)]
    rw [inR_t z0 z1, cond_true]
    generalize hzz : zs.getD L.2.1.toNat (ByteArray.empty, ((0 : Int), ([] : List Rule))) = z at *
    have hk0 : 0 ≤ n % 90 := by omega
    have hk1 : n % 90 ≤ 89 := by omega
    generalize n % 90 = k at hk0 hk1 ⊢
    have eh : ∀ q : Int, 0 ≤ q → q ≤ 2000 → recur_Handover (z.1, z.2.1, z.2.2) (L.1, L.2.1, (L.2.2.1.1, L.2.2.1.2), L.2.2.2.1, L.2.2.2.2.1, L.2.2.2.2.2.1, L.2.2.2.2.2.2.1, L.2.2.2.2.2.2.2.1, L.2.2.2.2.2.2.2.2) q = some (hov z.2.1 l L q, 0) := fun q h1 h2 => Handover_ok hzt hL h1 h2
    have r1 := hov_range hzt.2 hL (k := k) hk0 (by omega)
    have r0 := hov_range hzt.2 hL (k := 0) (by omega) (by omega)
    have hd0 := hL.d0; have hd1 := hL.d1; have hc0 := hL.c0; have hc1 := hL.c1; have he0 := hL.e0; have he1 := hL.e1
    simp only [eh k hk0 (by omega), eh 0 (by omega) (by omega), Option.bind_some, bne_self_eq_false, cond_false]
    by_cases hu : L.2.2.2.1 = 0
    · have hm0 : 0 ≤ 3600 * L.2.2.2.2.1 * k := Int.mul_nonneg (by omega) hk0
      have hm1 : 3600 * L.2.2.2.2.1 * k ≤ 3600 * 49 * 89 := Int.mul_le_mul (by omega) hk1 hk0 (by omega)
      rw [beq_t hu, cond_true, w64_in (x := hov z.2.1 l L k - hov z.2.1 l L 0) (by omega) (by omega), w64_in (x := 3600 * L.2.2.2.2.1) (by omega) (by omega), w64_in (x := 3600 * L.2.2.2.2.1 * k) (by omega) (by omega)]
      rw [beq_t (by unfold hov; rw [if_pos hu, if_pos hu]; omega), cond_true, law10_sane_t]
      rfl
    · have hst := hL.step hu
      have hst1 := hL.lr.step
      have hm0 : 0 ≤ k * stepD L := Int.mul_nonneg hk0 (by omega)
      have hm1 : k * stepD L ≤ 89 * 14 := Int.mul_le_mul hk1 hst (by omega) (by omega)
      have hloc : sLoc L k = (L.2.2.1.1 + k * stepD L) * 86400 + L.2.2.1.2 := rfl
      obtain ⟨p, f⟩ := fstI_ok hzt.2 (s := sLoc L k) (by omega)
      have hhov : hov z.2.1 l L k = fstI z.2.1 l (sLoc L k) := by unfold hov; rw [if_neg hu]
      rw [← hhov] at f
      have hfirst := sols_first hzt.2 (by omega) f
      have hF : r04_FromLocal (z.1, (z.2.1, z.2.2)) (L.2.2.1.1 + k * stepD L, L.2.2.1.2) = some (sols z.2.1 l (sLoc L k), 0) := r4From_ok hz4 (by omega) (by omega) hc0 (by omega)
      have hlen : (sols z.2.1 l (sLoc L k)).length ≤ 1001 := by
        have := solsF_len (o := z.2.1) (l := l) (sLoc L k) (l.length + 1) 0
        have := hzt.2.len
        unfold sols; omega
      obtain ⟨q1, q2, q3⟩ := f.piece hzt.2
      -- what both arms come to
      have fin : (Option.bind (r04_FromLocal (z.1, (z.2.1, z.2.2)) (L.2.2.1.1 + k * stepD L, L.2.2.1.2)) fun r95 =>
          cond (r95.2 != (0 : Int)) (some false) (
          cond (decide (Int.ofNat (List.length r95.1) > (0 : Int))) (
          cond (inR (0 : Int) (List.length r95.1)) (
          cond (hov z.2.1 l L k == List.getD r95.1 0 (0 : Int)) ((law10_sane).bind fun r109 => some r109) (some false)) none) (
          (r04_OffsetAt (z.1, (z.2.1, z.2.2)) (w64 (hov z.2.1 l L k - (1 : Int)))).bind fun r115 =>
          (r04_OffsetAt (z.1, (z.2.1, z.2.2)) (hov z.2.1 l L k)).bind fun r121 =>
          cond (cond (cond (r115.2 == (0 : Int)) (r121.2 == (0 : Int)) false) (decide (r121.1 > r115.1)) false) ((law10_sane).bind fun r136 => some r136) (some false)))) = some true := by
        rw [hF]
        simp only [Option.bind_some, bne_self_eq_false, cond_false]
        rcases hfirst with ⟨hne, hg, _⟩ | ⟨he, j, hpj, ht, hs1, hs2, hup⟩
        · have hpos : 0 < (sols z.2.1 l (sLoc L k)).length := List.length_pos_iff.2 hne
          rw [dec_true (show Int.ofNat (sols z.2.1 l (sLoc L k)).length > 0 by show ((sols z.2.1 l (sLoc L k)).length : Int) > 0; omega), inR_t (by omega) (by omega), hg]
          simp only [cond_true, beq_self_eq_true, law10_sane_t, Option.bind_some]
        · subst hpj
          rw [he]
          have hjl : j < l.length := by have := f.hk; omega
          have hb := frm_big hzt.2 hjl
          have hr := frm_room hzt.2 hjl
          have e1 := r4Off_ok hz4 (t := hov z.2.1 l L k - 1) (k := j) (by omega) (by omega) (by omega) (by omega) (by omega)
          have e2 := r4Off_ok hz4 (t := hov z.2.1 l L k) (k := j + 1) (by omega) (by omega) f.hk (by omega) q2
          rw [w64_in (x := hov z.2.1 l L k - 1) (by omega) (by omega)]
          simp only [show r04_OffsetAt (z.1, (z.2.1, z.2.2)) (hov z.2.1 l L k - 1) = _ from e1, show r04_OffsetAt (z.1, (z.2.1, z.2.2)) (hov z.2.1 l L k) = _ from e2, Option.bind_some]
          rw [dec_true (show tof z.2.1 l (j + 1) > tof z.2.1 l j from hup)]
          simp only [List.length_nil, law10_sane_t, Option.bind_some]
          rfl
      have hmul : ∀ a b : Int, a * b = b * a := Int.mul_comm
      by_cases h2 : L.2.2.2.1 = 2
      · have hsd : stepD L = 7 * L.2.2.2.2.1 := by unfold stepD; rw [if_pos h2]
        rw [hsd] at hm0 hm1 fin
        have e1 : L.2.2.2.2.1 * k * 7 = k * (7 * L.2.2.2.2.1) := by rw [hmul L.2.2.2.2.1 k, Int.mul_assoc, hmul L.2.2.2.2.1 7]
        have hk7 : 0 ≤ L.2.2.2.2.1 * k := Int.mul_nonneg (by omega) hk0
        rw [beq_f hu, cond_false, beq_t h2, cond_true, w64_in (x := L.2.2.2.2.1 * k) (by omega) (by omega), w64_in (x := L.2.2.2.2.1 * k * 7) (by omega) (by omega), w64_in (x := L.2.2.1.1 + L.2.2.2.2.1 * k * 7) (by omega) (by omega), e1]
        exact fin
      · have hsd : stepD L = L.2.2.2.2.1 := by unfold stepD; rw [if_neg h2]
        rw [hsd] at hm0 hm1 fin
        rw [beq_f hu, cond_false, beq_f h2, cond_false, hmul L.2.2.2.2.1 k, w64_in (x := k * L.2.2.2.2.1) (by omega) (by omega), w64_in (x := L.2.2.1.1 + k * L.2.2.2.2.1) (by omega) (by omega)]
        exact fin
  · rw [dec_false hl]
    simp only [Bool.not_false, cond_true, sane10, Option.bind_some]

theorem rsame_lp {z : ZoneT} {l : TrL} (hz : ZTab z l) {L : LayerT} (hL : LOk L) {d c k : Int} (hk0 : 0 ≤ k) (hk1 : k ≤ 19)
    (hm : LR (L.1, L.2.1, (d, c), L.2.2.2.1, L.2.2.2.2.1, L.2.2.2.2.2.1, L.2.2.2.2.2.2.1, L.2.2.2.2.2.2.2.1, L.2.2.2.2.2.2.2.2))
    (heq : ∀ i : Int, 0 ≤ i → i ≤ 8 → hov z.2.1 l L (k + i) = hov z.2.1 l (L.1, L.2.1, (d, c), L.2.2.2.1, L.2.2.2.2.1, L.2.2.2.2.2.1, L.2.2.2.2.2.2.1, L.2.2.2.2.2.2.2.1, L.2.2.2.2.2.2.2.2) i) : ∀ (n : Nat) (i : Int), 0 ≤ i → i + n = 8 →
    law10_RecurSame_l0 k i L.1 L.2.1 L.2.2.1.1 L.2.2.1.2 L.2.2.2.1 L.2.2.2.2.1 L.2.2.2.2.2.1 L.2.2.2.2.2.2.1 L.2.2.2.2.2.2.2.1 L.2.2.2.2.2.2.2.2 z.1 z.2.1 z.2.2 L.1 L.2.1 d c L.2.2.2.1 L.2.2.2.2.1 L.2.2.2.2.2.1 L.2.2.2.2.2.2.1 L.2.2.2.2.2.2.2.1 L.2.2.2.2.2.2.2.2 = some (.inr ())
  | 0, i, _, hi => by
    rw [law10_RecurSame_l0_eq]
    simp only [law10_RecurSame_l0_step]
    rw [dec_false (by omega), cond_false, lpK_inr]
  | n + 1, i, hi0, hi => by
    have ih := rsame_lp hz hL hk0 hk1 hm heq n (i + 1) (by omega) (by omega)
    have he0 := hm.e0; have he1 := hL.e1
    have e1 : recur_Handover (z.1, z.2.1, z.2.2) (L.1, L.2.1, (L.2.2.1.1, L.2.2.1.2), L.2.2.2.1, L.2.2.2.2.1, L.2.2.2.2.2.1, L.2.2.2.2.2.2.1, L.2.2.2.2.2.2.2.1, L.2.2.2.2.2.2.2.2) (k + i) = _ := Handover_ok hz hL (by omega) (by omega)
    have e2 := Handover_lr hz hm (k := i) hi0 (fun _ => by omega) (fun hu => by
      have hst := hL.step hu
      have h1 := hL.lr.step
      have : i * stepD L ≤ 8 * 14 := Int.mul_le_mul (by omega) hst (by omega) (by omega)
      show i * stepD L ≤ 50000
      omega)
    rw [law10_RecurSame_l0_eq]
    simp only [law10_RecurSame_l0_step]
    rw [dec_true (by omega), w64_in (x := k + i) (by omega) (by omega), w64_in (x := i + 1) (by omega) (by omega)]
    simp only [cond_true, e1, Option.bind_some]
    rw [show recur_Handover (z.1, (z.2.1, z.2.2)) (L.1, L.2.1, (d, c), L.2.2.2.1, L.2.2.2.2.1, L.2.2.2.2.2.1, L.2.2.2.2.2.2.1, L.2.2.2.2.2.2.2.1, L.2.2.2.2.2.2.2.2) i = _ from e2]
    simp only [Option.bind_some, heq i hi0 (by omega), bne_self_eq_false, cond_false, lpK_inl]
    exact ih

theorem RecurSame_true (t : List Int) (_h : Wf (.list (.int .i64)) t) (n : Int) (_h2 : Wf (.int .i64) n) : law10_RecurSame t n = some true := by
  simp only [law10_RecurSame, made_Light, Option.bind_some, show Int.ofNat (List.length t) = (t.length : Int) from rfl]
  by_cases hl : (t.length : Int) ≤ 500
  · rw [dec_true hl]
    simp only [Bool.not_true, cond_false, made_Roll, Option.bind_some]
    obtain ⟨zs, ps, cs, a1, e1, hs, d1⟩ := Staff_ok (L := t) (a := 0) ⟨by omega, by omega, by omega⟩
    obtain ⟨L, a2, e2, hL, z0, z1, d2⟩ := Layer_ok d1 hs (ss := []) (ByteArray.mk #[97])
    have hz1 := hs.z1
    have hlt : L.2.1.toNat < zs.length := by omega
    have hz : ZOk (zs.getD L.2.1.toNat (ByteArray.empty, ((0 : Int), ([] : List Rule)))) := by
      rw [List.getD_eq_getElem?_getD, List.getElem?_eq_getElem hlt]
      exact hs.ok _ (List.getElem_mem hlt)
    obtain ⟨l, hzt, hz4, hd⟩ := hz.both
    simp only [e1, e2, Option.bind_some, Mod_eq n 20 (by omega) (by omega)]
    rw [inR_t z0 z1, cond_true]
    generalize hzz : zs.getD L.2.1.toNat (ByteArray.empty, ((0 : Int), ([] : List Rule))) = z at *
    have hk0 : 0 ≤ n % 20 := by omega
    have hk1 : n % 20 ≤ 19 := by omega
    generalize n % 20 = k at hk0 hk1 ⊢
    have eh : ∀ q : Int, 0 ≤ q → q ≤ 2000 → recur_Handover (z.1, z.2.1, z.2.2) (L.1, L.2.1, (L.2.2.1.1, L.2.2.1.2), L.2.2.2.1, L.2.2.2.2.1, L.2.2.2.2.2.1, L.2.2.2.2.2.2.1, L.2.2.2.2.2.2.2.1, L.2.2.2.2.2.2.2.2) q = some (hov z.2.1 l L q, 0) := fun q h1 h2 => Handover_ok hzt hL h1 h2
    have r1 := hov_range hzt.2 hL (k := k) hk0 (by omega)
    have hd0 := hL.d0; have hd1 := hL.d1; have hc0 := hL.c0; have hc1 := hL.c1; have he0 := hL.e0; have he1 := hL.e1
    generalize hat : hov z.2.1 l L k = at_ at *
    obtain ⟨q, hq, q1, q2⟩ := ex_piece hzt.2 (show 0 ≤ at_ by omega) (by omega)
    have o1 := hzt.2.of0 q hq; have o2 := hzt.2.of1 q hq
    have eT := r4ToL_ok hz4 (t := at_) (by omega) (by omega) hq q1 q2
    simp only [eh k hk0 (by omega), Option.bind_some, show r04_ToLocal (z.1, (z.2.1, z.2.2)) at_ = _ from eT, hat, bne_self_eq_false, cond_false]
    have hloc : ((at_ + tof z.2.1 l q) / 86400) * 86400 + (at_ + tof z.2.1 l q) % 86400 = at_ + tof z.2.1 l q := by omega
    obtain ⟨p, f⟩ := fstI_ok hzt.2 (s := at_ + tof z.2.1 l q) (by omega)
    have hfi := f.ht
    have eF := r4First_ok hz4 (d := (at_ + tof z.2.1 l q) / 86400) (c := (at_ + tof z.2.1 l q) % 86400) (by omega) (by omega) (by omega) (by omega) f.hk (by rw [hloc]; exact f.hks) (by rw [hloc]; exact f.bef)
    rw [hloc, ← hfi] at eF
    simp only [show r04_First (z.1, (z.2.1, z.2.2)) ((at_ + tof z.2.1 l q) / 86400, (at_ + tof z.2.1 l q) % 86400) = _ from eF, Option.bind_some, bne_self_eq_false]
    have skip : (law10_sane.bind fun r => some r) = some true := by rw [law10_sane_t]; rfl
    by_cases hcnd : (cond (cond (cond (L.2.2.2.1 != 0) ((at_ + tof z.2.1 l q) % 86400 != L.2.2.1.2) false) true false) true (fstI z.2.1 l (at_ + tof z.2.1 l q) != at_)) = true
    · rw [hcnd, cond_true]; exact skip
    · have hcnd' := Bool.eq_false_iff.2 hcnd
      rw [hcnd', cond_false]
      have hfe : fstI z.2.1 l (at_ + tof z.2.1 l q) = at_ := by
        cases h1 : (cond (cond (L.2.2.2.1 != 0) ((at_ + tof z.2.1 l q) % 86400 != L.2.2.1.2) false) true false) with
        | true => rw [h1] at hcnd'; simp at hcnd'
        | false => rw [h1] at hcnd'; simpa using hcnd'
      have hcs : L.2.2.2.1 ≠ 0 → (at_ + tof z.2.1 l q) % 86400 = L.2.2.1.2 := by
        intro hu
        cases h1 : (cond (cond (L.2.2.2.1 != 0) ((at_ + tof z.2.1 l q) % 86400 != L.2.2.1.2) false) true false) with
        | true => rw [h1] at hcnd'; simp at hcnd'
        | false =>
          have : (L.2.2.2.1 != 0) = true := by simp [hu]
          rw [this] at h1
          simpa using h1
      have hm : LR (L.1, L.2.1, ((at_ + tof z.2.1 l q) / 86400, (at_ + tof z.2.1 l q) % 86400), L.2.2.2.1, L.2.2.2.2.1, L.2.2.2.2.2.1, L.2.2.2.2.2.2.1, L.2.2.2.2.2.2.2.1, L.2.2.2.2.2.2.2.2) :=
        ⟨by show 100 ≤ (at_ + tof z.2.1 l q) / 86400; omega, by show (at_ + tof z.2.1 l q) / 86400 ≤ 30000; omega, by show 0 ≤ (at_ + tof z.2.1 l q) % 86400; omega, by show (at_ + tof z.2.1 l q) % 86400 ≤ 86399; omega, hL.u0, hL.u1, hL.e0, hL.e1, hL.m0, by have := hL.m1; show L.2.2.2.2.2.1.length ≤ 1000; omega⟩
      have heq : ∀ i : Int, 0 ≤ i → i ≤ 8 → hov z.2.1 l L (k + i) = hov z.2.1 l (L.1, L.2.1, ((at_ + tof z.2.1 l q) / 86400, (at_ + tof z.2.1 l q) % 86400), L.2.2.2.1, L.2.2.2.2.1, L.2.2.2.2.2.1, L.2.2.2.2.2.2.1, L.2.2.2.2.2.2.2.1, L.2.2.2.2.2.2.2.2) i := by
        intro i hi0 hi1
        by_cases hu : L.2.2.2.1 = 0
        · unfold hov
          unfold hov at hat
          rw [if_pos hu] at hat
          rw [if_pos hu, if_pos hu]
          have es : sLoc (L.1, L.2.1, ((at_ + tof z.2.1 l q) / 86400, (at_ + tof z.2.1 l q) % 86400), L.2.2.2.1, L.2.2.2.2.1, L.2.2.2.2.2.1, L.2.2.2.2.2.2.1, L.2.2.2.2.2.2.2.1, L.2.2.2.2.2.2.2.2) 0 = at_ + tof z.2.1 l q := by
            unfold sLoc; dsimp only; omega
          rw [es, hfe]
          show _ = at_ + 3600 * L.2.2.2.2.1 * i
          rw [Int.mul_add]; omega
        · have hst := hL.step hu
          have hst1 := hL.lr.step
          have hm0 : 0 ≤ k * stepD L := Int.mul_nonneg hk0 (by omega)
          have hm1 : k * stepD L ≤ 19 * 14 := Int.mul_le_mul hk1 hst (by omega) (by omega)
          have hls : sLoc L k = (L.2.2.1.1 + k * stepD L) * 86400 + L.2.2.1.2 := rfl
          have hhov : hov z.2.1 l L k = fstI z.2.1 l (sLoc L k) := by unfold hov; rw [if_neg hu]
          obtain ⟨p', f'⟩ := fstI_ok hzt.2 (s := sLoc L k) (by omega)
          rw [← hhov, hat] at f'
          obtain ⟨w1, w2, w3⟩ := f'.piece hzt.2
          have hpq : p' = q := piece_uniq hzt.2 f'.hk hq w1 w2 q1 q2
          subst hpq
          have hday : at_ + tof z.2.1 l p' = sLoc L k := by
            have hc := hcs hu
            rcases sols_first hzt.2 (by omega) f' with ⟨_, _, h3⟩ | ⟨_, j, hpj, ht, hs1, hs2, hup⟩
            · exact h3
            · subst hpj
              have hdif := hd j (by have := f'.hk; omega)
              omega
          unfold hov
          rw [if_neg hu, if_neg hu]
          congr 1
          rw [hday]
          have hdd : sLoc L k / 86400 = L.2.2.1.1 + k * stepD L := by omega
          have hcc : sLoc L k % 86400 = L.2.2.1.2 := by omega
          unfold sLoc at hdd hcc ⊢
          dsimp only
          rw [hdd, hcc]
          have : stepD (L.1, L.2.1, (L.2.2.1.1 + k * stepD L, L.2.2.1.2), L.2.2.2.1, L.2.2.2.2.1, L.2.2.2.2.2.1, L.2.2.2.2.2.2.1, L.2.2.2.2.2.2.2.1, L.2.2.2.2.2.2.2.2) = stepD L := rfl
          rw [this, Int.add_mul k i]
          omega
      have lp := rsame_lp hzt hL hk0 hk1 hm heq 8 0 (by omega) (by omega)
      simp only [lp, Option.bind_some, sumC_inr]
      exact skip
  · rw [dec_false hl]
    simp only [Bool.not_false, cond_true, sane10, Option.bind_some]
end Go.Proofs.Pw
