/- Chapter 5: the law WeekTimes, on plain functions. -/
import Derived.Test.YtpkigeapefgmjaaPD
import Derived.Test.YtpkigeapefgmjaaPB
import Derived.Test.YtpkigeapefgmjaaLD
open Go Go.Lft
namespace Go.Proofs.Pw

theorem wt_l0 {out : SL} (hl : out.length ≤ 4096) {a b : Int} (hb : ∀ i, i < out.length → -1000000000000 ≤ (out.getD i (0, 0)).1 ∧ (out.getD i (0, 0)).1 ≤ 1000000000000 ∧ -1000000000000 ≤ (out.getD i (0, 0)).2 ∧ (out.getD i (0, 0)).2 ≤ 1000000000000) (nm : ByteArray) (o : Int) (rs : List Rule) (w : WL) : ∀ (n i : Nat) (acc : List Int), i + n = out.length → acc.length ≤ 4 * i + 3 →
    ∃ E, law05_WeekTimes_l0 a b (out.length : Int) (i : Int) nm o rs w out acc = some (a, b, nm, o, rs, w, out, E) ∧ E.length ≤ 100000
  | 0, i, acc, hi, ha => by
    rw [law05_WeekTimes_l0_eq]
    simp only [law05_WeekTimes_l0_step]
    rw [dec_false (by omega), cond_false, lpK_inr]
    exact ⟨acc, rfl, by omega⟩
  | n + 1, i, acc, hi, ha => by
    have hg := hb i (by omega)
    rw [law05_WeekTimes_l0_eq]
    simp only [law05_WeekTimes_l0_step]
    rw [dec_true (show (i : Int) < (out.length : Int) by omega), inR_t (by omega) (by omega)]
    simp only [cond_true, Int.toNat_natCast]
    rw [dec_true (by simp [sizeMax]; omega), w64_in (x := (i : Int) + 1) (by omega) (by omega), cond_true, lpK_inl]
    exact wt_l0 hl hb nm o rs w n (i + 1) _ (by omega) (by simp; omega)

theorem wt_l2 {out : SL} {E : List Int} (hE : E.length ≤ 100000) {a b : Int} {nm : ByteArray} {o : Int} {rs : List Rule} {w : WL} (hx : ∀ x, a ≤ x → x < b → ∃ v, week_In (nm, (o, rs)) w x = some v ∧ r03_Has out x = some v) : ∀ (n i : Nat), i + n = E.length →
    law05_WeekTimes_l2 a b (E.length : Int) (i : Int) nm o rs w out E = some (.inr ())
  | 0, i, hi => by
    rw [law05_WeekTimes_l2_eq]
    simp only [law05_WeekTimes_l2_step]
    rw [dec_false (by omega), cond_false, lpK_inr]
  | n + 1, i, hi => by
    have ih := wt_l2 hE hx n (i + 1) (by omega)
    rw [law05_WeekTimes_l2_eq]
    simp only [law05_WeekTimes_l2_step]
    rw [dec_true (show (i : Int) < (E.length : Int) by omega), inR_t (by omega) (by omega), w64_in (x := (i : Int) + 1) (by omega) (by omega)]
    obtain ⟨x, hxe⟩ : ∃ x, E.getD i (0 : Int) = x := ⟨_, rfl⟩
    simp only [cond_true, Int.toNat_natCast, hxe]
    by_cases h1 : a ≤ x
    · by_cases h2 : x < b
      · obtain ⟨v, e1, e2⟩ := hx x h1 h2
        rw [dec_true (show x ≥ a from h1), dec_true h2]
        simp only [cond_true, e1, e2, Option.bind_some, beq_self_eq_true, Bool.not_true, cond_false, lpK_inl]
        exact ih
      · rw [dec_false h2]
        cases decide (x ≥ a) <;> simp only [cond_true, cond_false, lpK_inl] <;> exact ih
    · rw [dec_false (show ¬ x ≥ a from h1)]
      simp only [cond_false, lpK_inl]
      exact ih

theorem WeekTimes_true (t : List Int) (_h : Wf (.list (.int .i64)) t) (n : Int) (_h2 : Wf (.int .i64) n) : law05_WeekTimes t n = some true := by
  simp only [law05_WeekTimes, made_Light, Option.bind_some, show Int.ofNat (List.length t) = (t.length : Int) from rfl]
  by_cases hl : (t.length : Int) ≤ 500
  · rw [dec_true hl]
    simp only [Bool.not_true, cond_false, made_Roll, Option.bind_some]
    obtain ⟨o, rs, a1, e1, hm, d1⟩ := Zone_ok (L := t) (a := 0) ⟨by omega, by omega, by omega⟩ (ByteArray.mk #[97])
    have hz := hm.tab (ByteArray.mk #[97])
    have h20 := occ_len hm
    obtain ⟨w, a2, e2, hw, hwl, d2⟩ := Windows_ok d1
    obtain ⟨x, a3, e3, x0, x1, _⟩ := Instant_ok d2
    obtain ⟨out, e4, s1, s2, s3, s4⟩ := TimesOf_ok hz.2 h20 hw (by omega) (M := 3) (by omega) (a := x) (b := x + 1728000) (by omega) (by omega) (by omega) (by omega)
    have hol : out.length ≤ 3 * 4 * 21 := Nat.le_trans s3 (Nat.mul_le_mul (Nat.mul_le_mul hwl (Nat.le_refl _)) (by omega))
    have e5 := Times_ok hz hw (by omega) (a := x) (b := x + 1728000) (by omega) (by omega) (by omega) (by omega) e4 (by omega)
    have hbd : ∀ u ∈ out, u.2 ≤ 8589934592 := fun u hu => by have := (s2 u hu).2; omega
    have hv := Valid3_ok s1 (by omega) (by omega) hbd
    simp only [e1, e2, e3, Option.bind_some]
    rw [w64_in (x := x + 1728000) (by omega) (by omega)]
    simp only [e5, Option.bind_some, bne_self_eq_false, cond_false, hv, Bool.not_true]
    rw [w64_in (x := x + 1728000 - x) (by omega) (by omega), w64_in (x := x + 1728000 - 1) (by omega) (by omega), Mod_eq n (x + 1728000 - x) (by omega) (by omega)]
    simp only [Option.bind_some, show Int.ofNat (List.length out) = (out.length : Int) from rfl]
    obtain ⟨E, e6, hE⟩ := wt_l0 (out := out) (by omega) (a := x) (b := x + 1728000) (fun i hi => by
      have hg := sts_get s1 i hi
      have hu := s2 (out[i]) (List.getElem_mem hi)
      rw [show out.getD i (0, 0) = out[i] by simp [hi]] at *
      omega) (ByteArray.mk #[97]) o rs w out.length 0 [x, x + 1728000 - 1, w64 (x + n % (x + 1728000 - x))] (by omega) (by simp)
    rw [show ((0 : Nat) : Int) = 0 from rfl] at e6
    rw [e6]
    simp only [Option.bind_some, show Int.ofNat (List.length E) = (E.length : Int) from rfl]
    have e7 := wt_l2 (out := out) hE (a := x) (b := x + 1728000) (nm := ByteArray.mk #[97]) (o := o) (rs := rs) (w := w) (fun y y1 y2 => by
      obtain ⟨k, hk, k1, k2⟩ := ex_piece hz.2 (t := y) (by omega) (by omega)
      have hs := Second_val hz (t := y) (by omega) (by omega) hk k1 k2
      have hi := In_ok hs hw (by omega)
      obtain ⟨v, hv1, hv2⟩ := Has3_ok s1 (by omega) (by omega) hbd y
      refine ⟨_, hi, ?_⟩
      rw [hv1]
      congr 1
      have := s4 k hk y y1 y2 k1 k2
      rw [Bool.eq_iff_iff, hv2, this]) E.length 0 (by omega)
    rw [show ((0 : Nat) : Int) = 0 from rfl] at e7
    rw [e7]
    simp only [Option.bind_some, sumC_inr, sane05]
  · rw [dec_false hl]
    simp only [Bool.not_false, cond_true, sane05, Option.bind_some]
end Go.Proofs.Pw
