/- Chapter 4: the law ZoneLeaps, on plain functions. -/
import Derived.Test.YtngdgmapbahdgaaPD
open Go Go.Lft
namespace Go.Proofs.Pw

theorem ne_out : ∀ (L : TrL) (now : Int) (p : Option Int), Good now p L → ∀ i, i < (outT now L).length → tof now (outT now L) (i + 1) ≠ tof now (outT now L) i
  | [], _, _, _, i, hi => by simp [outT] at hi
  | x :: r, now, p, h, i, hi => by
    simp only [Good] at h
    by_cases hx : x.2 = now
    · rw [if_pos hx] at h
      have e : outT now (x :: r) = outT now r := by simp [outT, hx]
      rw [e] at hi ⊢
      exact ne_out r now p h i hi
    · rw [if_neg hx] at h
      have e : outT now (x :: r) = (x.1 - now, x.2) :: outT x.2 r := by simp [outT, hx]
      rw [e] at hi ⊢
      obtain ⟨_, g8⟩ := h
      cases i with
      | zero => exact hx
      | succ i =>
        have := ne_out r x.2 _ g8 i (by simpa using hi)
        cases i with
        | zero => exact this
        | succ i => exact this

theorem OffsetAt_ok {z : ByteArray × (Int × List Rule)} {l : TrL} (h : ZTab z l) {t : Int} {k : Nat} (h0 : 0 ≤ t) (h1 : t ≤ 8589934592) (hk : k ≤ l.length) (hk1 : frm l k ≤ t) (hk2 : t < frm l (k + 1)) : zone_OffsetAt z t = some (tof z.2.1 l k, 0) := by
  simp only [zone_OffsetAt, show zone_open (z.1, (z.2.1, z.2.2)) t = _ from open_ok h h0 h1, Option.bind_some, bne_self_eq_false, cond_false, offset_ok h.2 hk hk1 hk2]

theorem Horizon_nil {z : ByteArray × (Int × List Rule)} (h : ZTab z []) : zone_Horizon z = some 0 := by
  simp only [zone_Horizon, show zone_Of (z.1, (z.2.1, z.2.2)) = _ from Of_ok h, Option.bind_some, bne_self_eq_false, cond_false]
  rfl
theorem Horizon_ok {z : ByteArray × (Int × List Rule)} {l : TrL} (h : ZTab z l) (hl : 0 < l.length) : zone_Horizon z = some (l.getD (l.length - 1) (0, 0)).1 := by
  have := h.2.len
  simp only [zone_Horizon, zone_Table_Last, show zone_Of (z.1, (z.2.1, z.2.2)) = _ from Of_ok h, Option.bind_some, bne_self_eq_false, cond_false, show Int.ofNat (List.length l) = (l.length : Int) from rfl]
  rw [beq_f (show ¬ (l.length : Int) = 0 by omega), w64_in (by omega) (by omega), inR_t (by omega) (by omega), show ((l.length : Int) - 1).toNat = l.length - 1 by omega]
  rfl

section
variable {o : Int} {l : TrL} (h : TOk o l)
include h

theorem leap_far {k : Nat} (hk : k < l.length) {s : Int} (h1 : frm l (k + 1) - 64800 ≤ s) (h2 : s ≤ frm l (k + 1) + 64800) (j : Nat) (hj : j ≤ l.length) (hne : j ≠ k ∧ j ≠ k + 1) : (j < k → frm l (j + 1) ≤ s - tof o l j) ∧ ¬ Sol o l s j := by
  have o1 := h.of0 j hj; have o2 := h.of1 j hj
  rcases Nat.lt_or_ge j k with hlt | hge
  · have := h.frm_gap (i := j + 1) (j := k + 1) (by omega) (by omega) (by omega)
    refine ⟨fun _ => by omega, fun hs => ?_⟩
    have := hs.2; omega
  · have := h.frm_gap (i := k + 1) (j := j) (by omega) (by omega) (by omega)
    refine ⟨by omega, fun hs => ?_⟩
    have := hs.1; omega

theorem frm_big {k : Nat} (hk : k < l.length) : 1000000 < frm l (k + 1) ∧ frm l (k + 1) ≤ 8589000000 := by
  rw [frm_s hk]
  exact ⟨h.pos k hk, h.max k hk⟩

theorem frm_room {k : Nat} (hk : k < l.length) : frm l k + 200000 ≤ frm l (k + 1) ∧ frm l (k + 1) + 200000 ≤ frm l (k + 1 + 1) := by
  have hb := frm_big h hk
  constructor
  · by_cases h0 : k = 0
    · subst h0
      have : frm l 0 = 0 := frm0
      omega
    · have := h.frm_gap (i := k) (j := k + 1) (by omega) (by omega) (by omega)
      omega
  · by_cases h0 : k + 2 ≤ l.length
    · have := h.frm_gap (i := k + 1) (j := k + 1 + 1) (by omega) (by omega) (by omega)
      omega
    · have : frm l (k + 1 + 1) = 8589934593 := by
        have e : k + 1 + 1 = l.length + 1 := by omega
        rw [e]; exact frm_end
      omega
end

theorem ZoneLeaps_true (t : List Int) (_h : Wf (.list (.int .i64)) t) (n : Int) (_h2 : Wf (.int .i64) n) (m : Int) (_h3 : Wf (.int .i64) m) : law04_ZoneLeaps t n m = some true := by
  simp only [law04_ZoneLeaps, made_Light, Option.bind_some, show Int.ofNat (List.length t) = (t.length : Int) from rfl]
  by_cases hl : (t.length : Int) ≤ 500
  · rw [dec_true hl]
    simp only [Bool.not_true, cond_false, made_Roll, Option.bind_some]
    obtain ⟨o, rs, a', e, hm, _⟩ := Zone_ok (L := t) (a := 0) ⟨by omega, by omega, by omega⟩ (ByteArray.mk #[97])
    have hz := hm.tab (ByteArray.mk #[97])
    have hd := dif_out _ _ _ hm.good
    have hn := ne_out _ _ _ hm.good
    generalize outT o (isort (occs rs)) = l at hz hd hn
    have ht : TOk o l := hz.2
    have hlen := ht.len
    simp only [e, Option.bind_some, show zone_Transitions (ByteArray.mk #[97], (o, rs)) = _ from hz.1, bne_self_eq_false, cond_false, show Int.ofNat (List.length l) = (l.length : Int) from rfl]
    by_cases h0 : l.length = 0
    · have : l = [] := List.length_eq_zero_iff.1 h0
      subst this
      simp only [Horizon_nil hz, Option.bind_some, sane04, List.length_nil]
      rfl
    · rw [beq_f (show ¬ (l.length : Int) = 0 by omega), cond_false]
      simp only [Mod_eq n (l.length : Int) (by omega) (by omega), Option.bind_some]
      obtain ⟨k, hk⟩ : ∃ k : Nat, (k : Int) = n % (l.length : Int) := ⟨(n % (l.length : Int)).toNat, by have := Int.emod_nonneg n (show (l.length : Int) ≠ 0 by omega); omega⟩
      have hkl : k < l.length := by have := Int.emod_lt_of_pos n (show (0 : Int) < (l.length : Int) by omega); omega
      rw [← hk, inR_t (by omega) (by omega)]
      simp only [cond_true, Int.toNat_natCast]
      obtain ⟨a, ha⟩ : ∃ a, a = (l.getD k ((0 : Int), (0 : Int))).1 := ⟨_, rfl⟩
      have hfa : frm l (k + 1) = a := by rw [frm_s hkl, ha]; rfl
      obtain ⟨q, hq⟩ : ∃ q, q = tof o l (k + 1) := ⟨_, rfl⟩
      have hq' : (l.getD k ((0 : Int), (0 : Int))).2 = q := by rw [hq]; rfl
      obtain ⟨b, hb⟩ : ∃ b, b = tof o l k := ⟨_, rfl⟩
      have hbig := frm_big ht hkl
      have hroom := frm_room ht hkl
      rw [hfa] at hbig hroom
      have hb0 := ht.of0 k (by omega); have hb1 := ht.of1 k (by omega); have hq0 := ht.of0 (k + 1) (by omega); have hq1 := ht.of1 (k + 1) (by omega)
      have hdk := hd k hkl
      have hnk := hn k hkl
      rw [← hb, ← hq] at hdk hnk
      rw [← hb] at hb0 hb1
      rw [← hq] at hq0 hq1
      have e1 := OffsetAt_ok hz (t := a - 1) (k := k) (by omega) (by omega) (by omega) (by omega) (by omega)
      have e2 := OffsetAt_ok hz (t := a) (k := k + 1) (by omega) (by omega) (by omega) (by omega) (by omega)
      dsimp only at e1 e2
      rw [← hb] at e1
      rw [← hq] at e2
      simp only [← ha, hq']
      rw [w64_in (x := a - 1) (by omega) (by omega)]
      simp only [e1, e2, Option.bind_some, bne_self_eq_false, cond_false, Horizon_ok hz (by omega)]
      rw [beq_f (show ¬ b = q by omega), w64_in (x := (l.length : Int) - 1) (by omega) (by omega), inR_t (show (0 : Int) ≤ (l.length : Int) - 1 by omega) (by omega), show ((l.length : Int) - 1).toNat = l.length - 1 by omega, w64_in (x := q - b) (by omega) (by omega)]
      simp only [bne_self_eq_false, cond_false, cond_true]
      have hdc : ∀ s : Int, 0 ≤ s → s ≤ 8600000000 → Int.tdiv s 86400 = s / 86400 ∧ Int.tmod s 86400 = s % 86400 ∧ w64 (s / 86400) = s / 86400 := fun s h1 h2 => ⟨Int.tdiv_eq_ediv_of_nonneg h1, Int.tmod_eq_emod_of_nonneg h1, w64_in (by omega) (by omega)⟩
      by_cases hneg : q - b < 0
      · rw [dec_true hneg, cond_true, w64_in (x := 0 - (q - b)) (by omega) (by omega), if_pos (show q < b by omega), w64_in (x := a + q) (by omega) (by omega)]
        simp only [Mod_eq m (0 - (q - b)) (by omega) (by omega), Option.bind_some]
        have r0 := Int.emod_nonneg m (show (0 - (q - b)) ≠ 0 by omega)
        have r1 := Int.emod_lt_of_pos m (show (0 : Int) < 0 - (q - b) by omega)
        generalize m % (0 - (q - b)) = r at r0 r1
        rw [w64_in (x := a + q + r) (by omega) (by omega)]
        obtain ⟨s, hs⟩ : ∃ s, s = a + q + r := ⟨_, rfl⟩
        rw [← hs]
        obtain ⟨hd1, hd2, hd3⟩ := hdc s (by omega) (by omega)
        rw [hd1, hd2, hd3]
        have hsd : s / 86400 * 86400 + s % 86400 = s := by omega
        have hsolk : Sol o l s k := ⟨by rw [← hb]; omega, by rw [hfa, ← hb]; omega⟩
        have hsolk1 : Sol o l s (k + 1) := ⟨by rw [hfa, ← hq]; omega, by rw [← hq]; have := hroom.2; omega⟩
        have hbef : ∀ j, j < k → frm l (j + 1) ≤ s - tof o l j := fun j hj => (leap_far ht hkl (s := s) (by omega) (by omega) j (by omega) (by omega)).1 hj
        have hno : ∀ j, j < k → ¬ Sol o l s j := fun j hj => (leap_far ht hkl (s := s) (by omega) (by omega) j (by omega) (by omega)).2
        have hA := All_first ht (d := s / 86400) (c := s % 86400) (by omega) (by omega) (by omega) (by omega) (k := k) (by omega) (by rw [hsd]; exact hsolk) (by rw [hsd]; exact hno)
        have hF := First_ok ht (d := s / 86400) (c := s % 86400) (by omega) (by omega) (by omega) (by omega) (k := k) (by omega) (by rw [hsd]; exact hsolk.2) (by rw [hsd]; exact hbef)
        rw [hsd, if_pos ⟨by omega, hsolk1⟩, ← hb, ← hq] at hA
        rw [hsd, ← hb, show max (frm l k) (s - b) = s - b by omega] at hF
        have hA' := FromLocal_ok hz (by omega) (by omega) hA
        have hF' := First_ok' hz (by omega) (by omega) hF
        simp only [hA', hF', Option.bind_some, bne_self_eq_false, cond_false]
        rw [dec_false (show ¬ q > b by omega), cond_false]
        simp only [show Int.ofNat (List.length [s - b, s - q]) = 2 from rfl, show inR 1 (List.length [s - b, s - q]) = true from rfl, show inR 0 (List.length [s - b, s - q]) = true from rfl, show List.getD [s - b, s - q] 0 (0 : Int) = s - b from rfl,
          show List.getD [s - b, s - q] 1 (0 : Int) = s - q from rfl, beq_self_eq_true, cond_true]
        rw [w64_in (x := s - q - (s - b)) (by omega) (by omega), beq_t (show s - q - (s - b) = 0 - (q - b) by omega), dec_true (show s - b < a by omega), dec_true (show s - q ≥ a by omega)]
        simp only [cond_true, sane04, Option.bind_some]
      · rw [dec_false hneg, cond_false, if_neg (show ¬ q < b by omega), w64_in (x := a + b) (by omega) (by omega)]
        simp only [Mod_eq m (q - b) (by omega) (by omega), Option.bind_some]
        have r0 := Int.emod_nonneg m (show (q - b) ≠ 0 by omega)
        have r1 := Int.emod_lt_of_pos m (show (0 : Int) < q - b by omega)
        generalize m % (q - b) = r at r0 r1
        rw [w64_in (x := a + b + r) (by omega) (by omega)]
        obtain ⟨s, hs⟩ : ∃ s, s = a + b + r := ⟨_, rfl⟩
        rw [← hs]
        obtain ⟨hd1, hd2, hd3⟩ := hdc s (by omega) (by omega)
        rw [hd1, hd2, hd3]
        have hsd : s / 86400 * 86400 + s % 86400 = s := by omega
        have hbef : ∀ j, j < k + 1 → frm l (j + 1) ≤ s - tof o l j := fun j hj => by
          by_cases hjk : j = k
          · subst hjk; rw [hfa, ← hb]; omega
          · exact (leap_far ht hkl (s := s) (by omega) (by omega) j (by omega) (by omega)).1 (by omega)
        have hno : ∀ j, j ≤ l.length → ¬ Sol o l s j := fun j hj => by
          by_cases hjk : j = k
          · subst hjk
            intro hs'
            have := hs'.2
            rw [hfa, ← hb] at this; omega
          · by_cases hjk1 : j = k + 1
            · subst hjk1
              intro hs'
              have := hs'.1
              rw [hfa, ← hq] at this; omega
            · exact (leap_far ht hkl (s := s) (by omega) (by omega) j (by omega) (by omega)).2
        have hA := All_none ht (d := s / 86400) (c := s % 86400) (by omega) (by omega) (by omega) (by omega) (by rw [hsd]; exact hno)
        have hF := First_ok ht (d := s / 86400) (c := s % 86400) (by omega) (by omega) (by omega) (by omega) (k := k + 1) (by omega) (by rw [hsd, ← hq]; have := hroom.2; omega) (by rw [hsd]; exact hbef)
        rw [hsd, hfa, ← hq, show max a (s - q) = a by omega] at hF
        have hA' := FromLocal_ok hz (by omega) (by omega) hA
        have hF' := First_ok' hz (by omega) (by omega) hF
        simp only [hA', hF', Option.bind_some, bne_self_eq_false, cond_false]
        rw [dec_true (show q > b by omega), cond_true]
        simp only [show Int.ofNat (List.length ([] : List Int)) = 0 from rfl, beq_self_eq_true, cond_true, sane04, Option.bind_some]
  · rw [dec_false hl]
    simp only [Bool.not_false, cond_true, sane04, Option.bind_some]
end Go.Proofs.Pw
