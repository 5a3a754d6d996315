/- The first instant at which a clock shows at least a local time, if there is one. -/
import Derived.Test.YtielflihgdebiaaPE
import Derived.Test.YtielflihgdebiaaPD
open Go Go.Lft
namespace Go.Proofs.Pw

/-- No instant shows this or more. -/
def NoF (o : Int) (l : TrL) (s : Int) : Prop := ∀ j, j ≤ l.length → frm l (j + 1) ≤ s - tof o l j

noncomputable def fO (o : Int) (l : TrL) (s : Int) : Option Int := open Classical in if h : ∃ t k, Fst o l s t k then some (Classical.choose h) else none

theorem Fst.uniq {o : Int} {l : TrL} {s t t' : Int} {k k' : Nat} (f : Fst o l s t k) (g : Fst o l s t' k') : k = k' ∧ t = t' := by
  have hk : k = k' := by
    rcases Nat.lt_trichotomy k k' with hlt | heq | hgt
    · have := g.bef k hlt; have := f.hks; omega
    · exact heq
    · have := f.bef k' hgt; have := g.hks; omega
  subst hk
  exact ⟨rfl, by rw [f.ht, g.ht]⟩

theorem fO_t {o : Int} {l : TrL} {s t : Int} {k : Nat} (f : Fst o l s t k) : fO o l s = some t := by
  have he : ∃ t k, Fst o l s t k := ⟨t, k, f⟩
  unfold fO
  rw [dif_pos he]
  obtain ⟨k', g⟩ := Classical.choose_spec he
  rw [(g.uniq f).2]

theorem fO_n {o : Int} {l : TrL} {s : Int} (hno : NoF o l s) : fO o l s = none := by
  unfold fO
  rw [dif_neg]
  rintro ⟨t, k, f⟩
  have := hno k f.hk
  have := f.hks
  omega

theorem fst_or (o : Int) (l : TrL) (s : Int) : (∃ t k, Fst o l s t k) ∨ NoF o l s := by
  by_cases hno : NoF o l s
  · exact .inr hno
  · left
    have : ∃ j, j ≤ l.length ∧ s - tof o l j < frm l (j + 1) := by
      apply Classical.byContradiction
      intro hn
      exact hno fun j hj => by
        rcases Int.lt_or_le (s - tof o l j) (frm l (j + 1)) with h | h
        · exact absurd ⟨j, hj, h⟩ hn
        · exact h
    obtain ⟨j, hj, hjs⟩ := this
    obtain ⟨a, ⟨ha, haN⟩, hmin⟩ := least (fun j => s - tof o l j < frm l (j + 1) ∧ j ≤ l.length) j ⟨hjs, hj⟩
    refine ⟨_, a, haN, ha, fun i hi => ?_, rfl⟩
    rcases Int.lt_or_le (s - tof o l i) (frm l (i + 1)) with h' | h'
    · have := hmin i ⟨h', by omega⟩; omega
    · exact h'

theorem fO_ex {o : Int} {l : TrL} {s t : Int} (he : fO o l s = some t) : ∃ k, Fst o l s t k := by
  rcases fst_or o l s with ⟨t', k, f⟩ | hno
  · rw [fO_t f] at he
    simp at he; subst he
    exact ⟨k, f⟩
  · rw [fO_n hno] at he; simp at he

section
variable {o : Int} {l : TrL} (h : TOk o l)
include h

theorem fO_at {s t : Int} (he : fO o l s = some t) : s ≤ t + 64800 ∧ 0 ≤ t ∧ t ≤ 8589934592 := by
  obtain ⟨k, f⟩ := fO_ex he
  obtain ⟨p1, p2, p3⟩ := f.piece h
  have o1 := h.of1 k f.hk
  have g1 := h.frm_le (i := 0) (j := k) (by omega) (by have := f.hk; omega)
  have e0 : frm l 0 = 0 := frm0
  have e1 : frm l (l.length + 1) = 8589934593 := frm_end
  have g2 := h.frm_le (i := k + 1) (j := l.length + 1) (by have := f.hk; omega) (by omega)
  omega

theorem fO_big {s : Int} (hs : 8589934593 + 64800 ≤ s) : NoF o l s := fun j hj => by
  have o1 := h.of1 j hj
  have e1 : frm l (l.length + 1) = 8589934593 := frm_end
  have g2 := h.frm_le (i := j + 1) (j := l.length + 1) (by omega) (by omega)
  omega

theorem fO_mono {s s' t' : Int} (hs : s ≤ s') (he : fO o l s' = some t') : ∃ t, fO o l s = some t ∧ t ≤ t' := by
  obtain ⟨k', g⟩ := fO_ex he
  have g1 := g.hks
  have hk' := g.hk
  rcases fst_or o l s with ⟨t, k, f⟩ | hno
  · refine ⟨t, fO_t f, ?_⟩
    obtain ⟨p1, p2, p3⟩ := f.piece h
    obtain ⟨q1, q2, q3⟩ := g.piece h
    have f1 := f.ht; have g2 := g.ht
    rcases Nat.lt_trichotomy k k' with hlt | heq | hgt
    · have := h.frm_le (i := k + 1) (j := k') (by omega) (by omega); omega
    · subst heq; omega
    · have := f.bef k' hgt; omega
  · have := hno k' hk'; omega

theorem First_no_lp {d c s : Int} (hsec : zone_seconds (d, c) = some s) (hs0 : -1000000000000 ≤ s) (hs1 : s ≤ 1000000000000) (hno : NoF o l s) :
    ∀ (n i : Nat), i + n = l.length + 1 → zone_Table_First_l0 ((l.length + 1 : Nat) : Int) (i : Int) d c (pcs o l (l.length + 1)) = some (.inr ())
  | 0, i, hi => by
    rw [zone_Table_First_l0_eq]
    simp only [zone_Table_First_l0_step]
    rw [dec_false (by omega), cond_false, lpK_inr]
  | n + 1, i, hi => by
    have hlen := h.len
    have hil : i ≤ l.length := by omega
    have o1 := h.of0 i hil; have o2 := h.of1 i hil
    have hb := hno i hil
    have hlt := h.frm_lt hil
    rw [zone_Table_First_l0_eq]
    simp only [zone_Table_First_l0_step]
    rw [dec_true (show (i : Int) < ((l.length + 1 : Nat) : Int) by omega), inR_t (by omega) (by rw [pcs_len]; omega)]
    simp only [cond_true, Int.toNat_natCast, pcs_get (show i < l.length + 1 by omega), hsec, Option.bind_some, pc]
    rw [w64_in (x := s - tof o l i) (by omega) (by omega), w64_in (x := (i : Int) + 1) (by omega) (by omega)]
    have hm : (if s - tof o l i > frm l i then s - tof o l i else frm l i) = max (frm l i) (s - tof o l i) := by split <;> omega
    rw [hm, dec_false (by omega), cond_false, lpK_inl]
    exact First_no_lp hsec hs0 hs1 hno n (i + 1) (by omega)

theorem First_no {d c s : Int} (hsec : zone_seconds (d, c) = some s) (hs0 : -1000000000000 ≤ s) (hs1 : s ≤ 1000000000000) (hno : NoF o l s) : zone_Table_First (o, l) (d, c) = some (0, false) := by
  have := First_no_lp h hsec hs0 hs1 hno (l.length + 1) 0 (by omega)
  simp only [zone_Table_First, Pieces_ok h, Option.bind_some, pcs_len, show Int.ofNat (List.length l + 1) = ((l.length + 1 : Nat) : Int) from rfl]
  rw [show (0 : Int) = ((0 : Nat) : Int) from rfl, this]
  rfl

theorem First_any {d c : Int} (hd : -1000000 ≤ d) (hd2 : d ≤ 1000000000000000) (hc : 0 ≤ c) (hc2 : c ≤ 86399) :
    zone_Table_First (o, l) (d, c) = some ((fO o l (d * 86400 + c)).getD 0, (fO o l (d * 86400 + c)).isSome) := by
  by_cases hb : d ≤ 1000000
  · rcases fst_or o l (d * 86400 + c) with ⟨t, k, f⟩ | hno
    · have e := First_ok h hd hb (by omega) (by omega) f.hk f.hks f.bef
      rw [← f.ht] at e
      rw [fO_t f]
      exact e
    · rw [fO_n hno]
      exact First_no h (seconds_ok hd hb (by omega) (by omega)) (by omega) (by omega) hno
  · have hno : NoF o l (d * 86400 + c) := fO_big h (by omega)
    rw [fO_n hno]
    by_cases hb2 : d ≤ 1048576
    · have hsec : zone_seconds (d, c) = some (d * 86400 + c) := by
        simp only [zone_seconds]
        rw [if_neg (show ¬ (-1048576 : Int) > d by omega), if_neg (show ¬ (1048576 : Int) < d by omega), w64_in (x := d * 86400) (by omega) (by omega), w64_in (by omega) (by omega)]
      exact First_no h hsec (by omega) (by omega) hno
    · have hsec : zone_seconds (d, c) = some (1048576 * 86400 + c) := by
        simp only [zone_seconds]
        rw [if_neg (show ¬ (-1048576 : Int) > d by omega), if_pos (show (1048576 : Int) < d by omega), w64_in (x := 1048576 * 86400) (by omega) (by omega), w64_in (by omega) (by omega)]
      exact First_no h hsec (by omega) (by omega) (fO_big h (by omega))

/-! The reference's. -/

theorem r4_first_no {nm : ByteArray} {rs : List Rule} {d c : Int} (hd : -1000000 ≤ d) (hd2 : d ≤ 1000000) (hc : 0 ≤ c) (hc2 : c ≤ 86399) (hno : NoF o l (d * 86400 + c)) : ∀ (n j : Nat), j + n = l.length + 1 →
    r04_First_l0 ((j : Int) - 1) nm o rs d c l = some (.inr ())
  | 0, j, hj => by
    rw [r04_First_l0_eq]
    simp only [r04_First_l0_step, show Int.ofNat (List.length l) = (l.length : Int) from rfl]
    rw [dec_false (by omega), cond_false, lpK_inr]
  | n + 1, j, hj => by
    have hlen := h.len
    have hjl : j ≤ l.length := by omega
    have o1 := h.of0 j hjl; have o2 := h.of1 j hjl
    have hlt := h.frm_lt hjl
    have hb := hno j hjl
    have ih := r4_first_no (nm := nm) (rs := rs) hd hd2 hc hc2 hno n (j + 1) (by omega)
    rw [show ((j + 1 : Nat) : Int) - 1 = (j : Int) by omega] at ih
    have key : ∀ A : Option ((Int × ByteArray × Int × List Rule × Int × Int × TrL) ⊕ ((Int × Int) ⊕ Unit)),
        A = (cond (decide (max (frm l j) (d * 86400 + c - tof o l j) < frm l (j + 1))) (some (.inr (.inl (max (frm l j) (d * 86400 + c - tof o l j), 0)))) (some (.inl ((j : Int), nm, o, rs, d, c, l)))) →
        lpK A (fun h => r04_First_l0 h.1 h.2.1 h.2.2.1 h.2.2.2.1 h.2.2.2.2.1 h.2.2.2.2.2.1 h.2.2.2.2.2.2) = some (.inr ()) := by
      intro A hA
      rw [hA, dec_false (by omega), cond_false, lpK_inl]
      exact ih
    rw [r04_First_l0_eq]
    refine key _ ?_
    simp only [r04_First_l0_step, show Int.ofNat (List.length l) = (l.length : Int) from rfl]
    rw [dec_true (show (j : Int) - 1 < (l.length : Int) by omega)]
    simp only [show (j : Int) - 1 + 1 = (j : Int) by omega, w64_in (x := (j : Int)) (by omega) (by omega), Int.toNat_natCast]
    rw [w64_in (x := d * 86400) (by omega) (by omega), w64_in (x := d * 86400 + c) (by omega) (by omega)]
    have hmx : ∀ a b : Int, (if a > b then a else b) = max b a := fun a b => by omega
    clear key
    cases j with
    | zero =>
      have ht0 : tof o l 0 = o := rfl
      have hf0 : frm l 0 = 0 := rfl
      rw [dec_false (show ¬ ((0 : Nat) : Int) - 1 ≥ 0 by omega)]
      rw [ht0] at o1 o2 ⊢
      rw [hf0]
      simp only [cond_true, cond_false, w64_in (x := d * 86400 + c - o) (by omega) (by omega), hmx]
      by_cases hl0 : 0 < l.length
      · have e : frm l (0 + 1) = tat l 0 := frm_s hl0
        rw [e]
        rw [dec_true (show ((0 : Nat) : Int) < (l.length : Int) by omega), inR_t (by omega) (by omega)]
        rfl
      · have hl0' : l.length = 0 := by omega
        have e : frm l (0 + 1) = 8589934593 := by have := frm_end (l := l); rwa [hl0'] at this
        rw [e]
        rw [dec_false (show ¬ ((0 : Nat) : Int) < (l.length : Int) by omega)]
        rfl
    | succ i =>
      have hil : i < l.length := by omega
      have ht0 : tof o l (i + 1) = (l.getD i ((0 : Int), (0 : Int))).2 := rfl
      have hf0 : frm l (i + 1) = (l.getD i ((0 : Int), (0 : Int))).1 := frm_s hil
      rw [show ((i + 1 : Nat) : Int) - 1 = (i : Int) by omega, dec_true (show (i : Int) ≥ 0 by omega), inR_t (by omega) (by omega)]
      simp only [cond_true, Int.toNat_natCast, ← ht0, ← hf0]
      rw [w64_in (x := d * 86400 + c - tof o l (i + 1)) (by omega) (by omega)]
      simp only [hmx]
      by_cases hl0 : i + 1 < l.length
      · have e : frm l (i + 1 + 1) = (l.getD (i + 1) ((0 : Int), (0 : Int))).1 := frm_s hl0
        rw [dec_true (show ((i + 1 : Nat) : Int) < (l.length : Int) by omega), inR_t (by omega) (by omega)]
        simp only [cond_true, ← e]
      · have e : frm l (i + 1 + 1) = 8589934593 := by have := frm_end (l := l); rwa [show l.length + 1 = i + 1 + 1 by omega] at this
        rw [dec_false (show ¬ ((i + 1 : Nat) : Int) < (l.length : Int) by omega), e]
        rfl
end

theorem r4First_any {z : ZoneT} {l : TrL} (h : Z4 z l) {d c : Int} (hd : 1 ≤ d) (hc : 0 ≤ c) (hc2 : c ≤ 86399) :
    r04_First z (d, c) = some (match fO z.2.1 l (d * 86400 + c) with | some t => (t, 0) | none => (0, 10)) := by
  by_cases hb : d ≤ 99422
  · rcases fst_or z.2.1 l (d * 86400 + c) with ⟨t, k, f⟩ | hno
    · have e := r4First_ok h (d := d) (c := c) (by omega) hb hc hc2 f.hk f.hks f.bef
      rw [← f.ht] at e
      rw [fO_t f]
      exact e
    · have := r4_first_no h.2 (nm := z.1) (rs := z.2.2) (show -1000000 ≤ d by omega) (by omega) hc hc2 hno (l.length + 1) 0 (by omega)
      rw [fO_n hno]
      simp only [r04_First, show r04_Transitions (z.1, (z.2.1, z.2.2)) = _ from h.1, Option.bind_some, bne_self_eq_false, cond_false, r4in_t hc hc2, Bool.not_true, r4small_ok (show -2 ≤ d by omega) hb]
      rw [dec_false (show ¬ d < -2 by omega), cond_false, show r04_First_l0 (-1) z.1 z.2.1 z.2.2 d c l = _ from this]
      rfl
  · rw [fO_n (fO_big h.2 (by omega))]
    simp only [r04_First, show r04_Transitions (z.1, (z.2.1, z.2.2)) = _ from h.1, Option.bind_some, bne_self_eq_false, cond_false, r4in_t hc hc2, Bool.not_true, r04_small, r4in_f (show ¬ (-2 ≤ d ∧ d ≤ 99422) by omega)]
    rw [dec_false (show ¬ d < -2 by omega)]
    rfl
end Go.Proofs.Pw

/- Chapter 10: handovers of any layer that is right. -/
open Go Go.Lft
namespace Go.Proofs.Pw

/-- Layers that are right. -/
structure Rt (L : LayerT) : Prop where
  d0 : 1 ≤ L.2.2.1.1
  d1 : L.2.2.1.1 ≤ 100000
  c0 : 0 ≤ L.2.2.1.2
  c1 : L.2.2.1.2 ≤ 86399
  u0 : 0 ≤ L.2.2.2.1
  u1 : L.2.2.2.1 ≤ 2
  e0 : 1 ≤ L.2.2.2.2.1
  e1 : L.2.2.2.2.1 ≤ 400
  m0 : L.2.2.2.2.2.1 ≠ []

theorem Rt.step {L : LayerT} (h : Rt L) : 1 ≤ stepD L ∧ stepD L ≤ 2800 := by
  have := h.e0; have := h.e1
  unfold stepD; split <;> omega

noncomputable def hO (o : Int) (l : TrL) (L : LayerT) (k : Int) : Option Int :=
  if L.2.2.2.1 = 0 then (fO o l (sLoc L 0)).bind fun t => if t + 3600 * L.2.2.2.2.1 * k ≤ 8589934592 then some (t + 3600 * L.2.2.2.2.1 * k) else none
  else fO o l (sLoc L k)

section
variable {o : Int} {l : TrL} (ht : TOk o l) {L : LayerT} (h : Rt L)
include ht h

theorem hO_at {k t : Int} (hk : 0 ≤ k) (he : hO o l L k = some t) : 0 ≤ t ∧ t ≤ 8589934592 ∧ k ≤ 2386092 := by
  have hs := h.step
  have hd0 := h.d0; have he0 := h.e0; have hc0 := h.c0
  unfold hO at he
  by_cases h0 : L.2.2.2.1 = 0
  · rw [if_pos h0] at he
    cases hf : fO o l (sLoc L 0) with
    | none => rw [hf] at he; simp at he
    | some v =>
      rw [hf] at he
      simp only [Option.bind_some] at he
      have hv := fO_at ht hf
      have hm : 3600 * k ≤ 3600 * L.2.2.2.2.1 * k := Int.mul_le_mul_of_nonneg_right (by omega) hk
      split at he
      · simp at he; omega
      · simp at he
  · rw [if_neg h0] at he
    have hv := fO_at ht he
    have hm : k * 1 ≤ k * stepD L := Int.mul_le_mul_of_nonneg_left hs.1 hk
    unfold sLoc at hv
    omega

theorem hO_mono1 {k t : Int} (he : hO o l L (k + 1) = some t) : ∃ v, hO o l L k = some v ∧ v ≤ t := by
  have hs := h.step
  have he0 := h.e0
  unfold hO at he ⊢
  by_cases h0 : L.2.2.2.1 = 0
  · rw [if_pos h0] at he ⊢
    cases hf : fO o l (sLoc L 0) with
    | none => rw [hf] at he; simp at he
    | some v =>
      rw [hf] at he
      simp only [Option.bind_some] at he ⊢
      have hm : 3600 * L.2.2.2.2.1 * (k + 1) = 3600 * L.2.2.2.2.1 * k + 3600 * L.2.2.2.2.1 := by rw [Int.mul_add, Int.mul_one]
      split at he
      · rw [if_pos (by omega)]
        simp at he
        exact ⟨_, rfl, by omega⟩
      · simp at he
  · rw [if_neg h0] at he ⊢
    have hm : (k + 1) * stepD L = k * stepD L + stepD L := by rw [Int.add_mul, Int.one_mul]
    exact fO_mono ht (by unfold sLoc; rw [hm]; omega) he

/-- The handover k is not behind t. -/
def QO (o : Int) (l : TrL) (L : LayerT) (t k : Int) : Prop := ∃ v, hO o l L k = some v ∧ v ≤ t

theorem QO.down {t : Int} : ∀ (n : Nat) {k : Int}, QO o l L t (k + n) → QO o l L t k
  | 0, k, hq => by rwa [show k + ((0 : Nat) : Int) = k by omega] at hq
  | n + 1, k, hq => by
    rw [show k + ((n + 1 : Nat) : Int) = k + (n : Int) + 1 by omega] at hq
    obtain ⟨v, hv, hvt⟩ := hq
    obtain ⟨v', hv', hl⟩ := hO_mono1 ht h (k := k + (n : Int)) hv
    exact QO.down n ⟨v', hv', by omega⟩

theorem QO.le {t k j : Int} (hkj : k ≤ j) (hq : QO o l L t j) : QO o l L t k := by
  refine QO.down ht h (j - k).toNat ?_
  rwa [show k + (((j - k).toNat : Nat) : Int) = j by omega]

/-- What the shift is. -/
def ShO (o : Int) (l : TrL) (L : LayerT) (t K : Int) : Prop := (K = -1 ∧ ¬ QO o l L t 0) ∨ (0 ≤ K ∧ QO o l L t K ∧ ¬ QO o l L t (K + 1))

theorem ShO.uniq {t K K' : Int} (a : ShO o l L t K) (b : ShO o l L t K') : K = K' := by
  rcases a with ⟨a1, a2⟩ | ⟨a1, a2, a3⟩ <;> rcases b with ⟨b1, b2⟩ | ⟨b1, b2, b3⟩
  · omega
  · exact absurd (QO.le ht h b1 b2) a2
  · exact absurd (QO.le ht h a1 a2) b2
  · rcases Int.lt_trichotomy K K' with hlt | heq | hgt
    · exact absurd (QO.le ht h (by omega) b2) a3
    · exact heq
    · exact absurd (QO.le ht h (by omega) a2) b3

/-- Days: no handover by t lies more than two days behind the local day. -/
theorem QO.day {t k : Int} (h0 : L.2.2.2.1 ≠ 0) (hq : QO o l L t k) {j : Nat} (hj : j ≤ l.length) : L.2.2.1.1 + k * stepD L ≤ (t + tof o l j) / 86400 + 2 := by
  obtain ⟨v, hv, hvt⟩ := hq
  unfold hO at hv
  rw [if_neg h0] at hv
  have := fO_at ht hv
  have o0 := ht.of0 j hj
  have hc0 := h.c0
  unfold sLoc at this
  omega
end
end Go.Proofs.Pw

/- Chapter 10: package recur and its reference, for any layer that is right. -/
open Go Go.Lft
namespace Go.Proofs.Pw

theorem step_any {L : LayerT} (h : Rt L) : recur_step L = some (stepD L) := by
  have := h.e0; have := h.e1
  simp only [recur_step, stepD]
  by_cases h2 : L.2.2.2.1 = 2
  · rw [beq_t h2, cond_true, if_pos h2, w64_in (by omega) (by omega)]
  · rw [beq_f h2, cond_false, if_neg h2]

/-- What a handover comes to. -/
def HVal (r : Option (Int × Bool)) (x : Option Int) : Prop := ∃ v, r = some (v, x.isSome) ∧ ∀ t, x = some t → v = t

theorem recH {o : Int} {l : TrL} (ht : TOk o l) {L : LayerT} (h : Rt L) {k : Int} (hk : 0 ≤ k) (hk2 : k ≤ 8589934592) : HVal (recur_HandoverOf (o, l) L k) (hO o l L k) := by
  have hs := h.step
  have hd0 := h.d0; have hd1 := h.d1; have hc0 := h.c0; have hc1 := h.c1; have he0 := h.e0; have he1 := h.e1
  have hstep : recur_step (L.1, L.2.1, (L.2.2.1.1, L.2.2.1.2), L.2.2.2.1, L.2.2.2.2.1, L.2.2.2.2.2.1, L.2.2.2.2.2.2.1, L.2.2.2.2.2.2.2.1, L.2.2.2.2.2.2.2.2) = _ := step_any h
  simp only [HVal, recur_HandoverOf, hstep, Option.bind_some]
  rw [dec_false (show ¬ k > 8589934592 by omega), cond_false]
  by_cases h0 : L.2.2.2.1 = 0
  · have hF := First_any ht (d := L.2.2.1.1) (c := L.2.2.1.2) (by omega) (by omega) hc0 hc1
    have hs0 : L.2.2.1.1 * 86400 + L.2.2.1.2 = sLoc L 0 := by unfold sLoc; omega
    have hm0 : 0 ≤ 3600 * L.2.2.2.2.1 * k := Int.mul_nonneg (by omega) hk
    have hm1 : 3600 * L.2.2.2.2.1 * k ≤ 3600 * 400 * 8589934592 := Int.mul_le_mul (by omega) hk2 hk (by omega)
    rw [show (L.2.2.2.1 != 0) = false by rw [h0]; rfl, cond_false, hF, hs0]
    simp only [Option.bind_some]
    unfold hO
    rw [if_pos h0]
    cases hf : fO o l (sLoc L 0) with
    | none => exact ⟨_, rfl, fun t h => by simp at h⟩
    | some v =>
      have hv := fO_at ht hf
      simp only [Option.getD_some, Option.isSome_some, cond_true, Option.bind_some, w64_in (x := 3600 * L.2.2.2.2.1) (show -9223372036854775808 ≤ _ by omega) (by omega), w64_in (x := 3600 * L.2.2.2.2.1 * k) (show -9223372036854775808 ≤ _ by omega) (by omega), w64_in (x := v + 3600 * L.2.2.2.2.1 * k) (show -9223372036854775808 ≤ _ by omega) (by omega)]
      by_cases hle : v + 3600 * L.2.2.2.2.1 * k ≤ 8589934592
      · rw [if_pos hle, dec_true hle]
        exact ⟨_, rfl, fun t h => by simpa using h⟩
      · rw [if_neg hle, dec_false hle]
        exact ⟨_, rfl, fun t h => by simp at h⟩
  · have hm0 : 0 ≤ k * stepD L := Int.mul_nonneg hk (by omega)
    have hm1 : k * stepD L ≤ 8589934592 * 2800 := Int.mul_le_mul hk2 hs.2 (by omega) (by omega)
    rw [show (L.2.2.2.1 != 0) = true by simp [h0], cond_true, w64_in (x := k * stepD L) (by omega) (by omega), w64_in (x := L.2.2.1.1 + k * stepD L) (by omega) (by omega), First_any ht (by omega) (by omega) hc0 hc1]
    simp only [Option.bind_some]
    unfold hO
    rw [if_neg h0]
    exact ⟨_, rfl, fun t h => by have h : fO o l ((L.2.2.1.1 + k * stepD L) * 86400 + L.2.2.1.2) = some t := h; rw [h]; rfl⟩

theorem r10H {z : ZoneT} {l : TrL} (hz : Z4 z l) {L : LayerT} (h : Rt L) {k : Int} (hk : 0 ≤ k) (hk2 : k ≤ 8589934592) : HVal (r10_handover z L k) (hO z.2.1 l L k) := by
  have hs := h.step
  have hd0 := h.d0; have hd1 := h.d1; have hc0 := h.c0; have hc1 := h.c1; have he0 := h.e0; have he1 := h.e1; have hu1 := h.u1; have hu0 := h.u0
  simp only [HVal, r10_handover]
  have hm0 : 0 ≤ k * L.2.2.2.2.1 := Int.mul_nonneg hk (by omega)
  have hm1 : k * L.2.2.2.2.1 ≤ 8589934592 * 400 := Int.mul_le_mul hk2 (by omega) (by omega) (by omega)
  rw [w64_in (x := k * L.2.2.2.2.1) (by omega) (by omega)]
  by_cases h0 : L.2.2.2.1 = 0
  · have hF := r4First_any hz (d := L.2.2.1.1) (c := L.2.2.1.2) (by omega) hc0 hc1
    have hs0 : L.2.2.1.1 * 86400 + L.2.2.1.2 = sLoc L 0 := by unfold sLoc; omega
    rw [beq_t h0, cond_true, show r04_First (z.1, (z.2.1, z.2.2)) (L.2.2.1.1, L.2.2.1.2) = _ from hF, hs0]
    simp only [Option.bind_some]
    have hcm : k * L.2.2.2.2.1 * 3600 = 3600 * L.2.2.2.2.1 * k := by rw [Int.mul_comm, Int.mul_comm k, Int.mul_assoc]
    have hm2 : 0 ≤ 3600 * L.2.2.2.2.1 * k := Int.mul_nonneg (by omega) hk
    have hm3 : 3600 * L.2.2.2.2.1 * k ≤ 3600 * 400 * 8589934592 := Int.mul_le_mul (by omega) hk2 hk (by omega)
    rw [hcm, w64_in (x := 3600 * L.2.2.2.2.1 * k) (by omega) (by omega)]
    unfold hO
    rw [if_pos h0]
    cases hf : fO z.2.1 l (sLoc L 0) with
    | none => exact ⟨_, rfl, fun t h => by simp at h⟩
    | some v =>
      have hv := fO_at hz.2 hf
      simp only [Option.bind_some]
      rw [w64_in (x := v + 3600 * L.2.2.2.2.1 * k) (by omega) (by omega), beq_self_eq_true, cond_true]
      by_cases hle : v + 3600 * L.2.2.2.2.1 * k ≤ 8589934592
      · rw [if_pos hle, dec_true hle]
        exact ⟨_, rfl, fun t h => by simpa using h⟩
      · rw [if_neg hle, dec_false hle]
        exact ⟨_, rfl, fun t h => by simp at h⟩
  · rw [beq_f h0, cond_false]
    have fin : ∀ n : Int, n = k * stepD L → 0 ≤ n → HVal ((r04_First (z.1, (z.2.1, z.2.2)) (L.2.2.1.1 + n, L.2.2.1.2)).bind fun r => some (r.1, (r.2 == (0 : Int)))) (hO z.2.1 l L k) := by
      intro n hn hn0
      have hF := r4First_any hz (d := L.2.2.1.1 + n) (c := L.2.2.1.2) (by omega) hc0 hc1
      rw [show r04_First (z.1, (z.2.1, z.2.2)) (L.2.2.1.1 + n, L.2.2.1.2) = _ from hF]
      unfold hO
      rw [if_neg h0]
      have hsl : (L.2.2.1.1 + n) * 86400 + L.2.2.1.2 = sLoc L k := by rw [hn]; rfl
      rw [hsl]
      cases hf : fO z.2.1 l (sLoc L k) with
      | none => exact ⟨_, rfl, fun t h => by simp at h⟩
      | some v => exact ⟨_, rfl, fun t h => by simpa using h⟩
    by_cases h2 : L.2.2.2.1 = 2
    · have hsd : stepD L = 7 * L.2.2.2.2.1 := by unfold stepD; rw [if_pos h2]
      have e1 : k * L.2.2.2.2.1 * 7 = k * stepD L := by rw [hsd, Int.mul_assoc, Int.mul_comm L.2.2.2.2.1 7]
      rw [beq_t h2, cond_true, w64_in (x := k * L.2.2.2.2.1 * 7) (by omega) (by omega), w64_in (x := L.2.2.1.1 + k * L.2.2.2.2.1 * 7) (by omega) (by omega)]
      exact fin _ e1 (by omega)
    · have hsd : stepD L = L.2.2.2.2.1 := by unfold stepD; rw [if_neg h2]
      rw [beq_f h2, cond_false, w64_in (x := L.2.2.1.1 + k * L.2.2.2.2.1) (by omega) (by omega)]
      exact fin _ (by rw [hsd]) hm0

/-! Shifts. -/

theorem sh_l0 {o : Int} {l : TrL} (ht : TOk o l) {L : LayerT} (h : Rt L) {t N : Int} (hN : N ≤ 8589934592) (hfirst : QO o l L t 0) : ∀ n : Nat, (n : Int) ≤ N →
    ∃ k : Int, recur_ShiftOf_l0 t (n : Int) o l L.1 L.2.1 L.2.2.1.1 L.2.2.1.2 L.2.2.2.1 L.2.2.2.2.1 L.2.2.2.2.2.1 L.2.2.2.2.2.2.1 L.2.2.2.2.2.2.2.1 L.2.2.2.2.2.2.2.2 =
      some (t, k, o, l, L.1, L.2.1, L.2.2.1.1, L.2.2.1.2, L.2.2.2.1, L.2.2.2.2.1, L.2.2.2.2.2.1, L.2.2.2.2.2.2.1, L.2.2.2.2.2.2.2.1, L.2.2.2.2.2.2.2.2) ∧ 0 ≤ k ∧ QO o l L t k
  | 0, _ => by
    rw [recur_ShiftOf_l0_eq]
    simp only [recur_ShiftOf_l0_step]
    rw [dec_false (by omega), cond_false, lpK_inr]
    exact ⟨_, rfl, by omega, hfirst⟩
  | n + 1, hn => by
    obtain ⟨k, e, k0, k1⟩ := sh_l0 ht h hN hfirst n (by omega)
    obtain ⟨v, hH, hv⟩ := recH ht h (k := ((n + 1 : Nat) : Int)) (by omega) (by omega)
    rw [recur_ShiftOf_l0_eq]
    simp only [recur_ShiftOf_l0_step]
    rw [dec_true (by omega), cond_true, show recur_HandoverOf (o, l) (L.1, L.2.1, (L.2.2.1.1, L.2.2.1.2), L.2.2.2.1, L.2.2.2.2.1, L.2.2.2.2.2.1, L.2.2.2.2.2.2.1, L.2.2.2.2.2.2.2.1, L.2.2.2.2.2.2.2.2) ((n + 1 : Nat) : Int) = _ from hH]
    simp only [Option.bind_some]
    rw [w64_in (x := ((n + 1 : Nat) : Int) - 1) (by omega) (by omega), show ((n + 1 : Nat) : Int) - 1 = (n : Int) by omega]
    cases hx : hO o l L ((n + 1 : Nat) : Int) with
    | none =>
      simp only [Option.isSome_none, cond_false, lpK_inl]
      exact ⟨k, e, k0, k1⟩
    | some x =>
      have := hv x hx
      subst this
      simp only [Option.isSome_some, cond_true]
      by_cases hc : v ≤ t
      · rw [dec_true hc, cond_true, lpK_inr]
        exact ⟨_, rfl, by omega, v, hx, hc⟩
      · rw [dec_false hc, cond_false, lpK_inl]
        exact ⟨k, e, k0, k1⟩

theorem sh_l2 {o : Int} {l : TrL} (ht : TOk o l) {L : LayerT} (h : Rt L) {t : Int} : ∀ (n : Nat) (k : Int), k + n = 2386093 → 0 ≤ k → QO o l L t k →
    ∃ K : Int, recur_ShiftOf_l2 t k o l L.1 L.2.1 L.2.2.1.1 L.2.2.1.2 L.2.2.2.1 L.2.2.2.2.1 L.2.2.2.2.2.1 L.2.2.2.2.2.2.1 L.2.2.2.2.2.2.2.1 L.2.2.2.2.2.2.2.2 = some K ∧ 0 ≤ K ∧ QO o l L t K ∧ ¬ QO o l L t (K + 1)
  | 0, k, hn, hk, hq => by
    obtain ⟨v, hv, _⟩ := hq
    have := hO_at ht h hk hv
    omega
  | n + 1, k, hn, hk, hq => by
    obtain ⟨v, hH, hv⟩ := recH ht h (k := k + 1) (by omega) (by omega)
    rw [recur_ShiftOf_l2_eq]
    simp only [recur_ShiftOf_l2_step]
    rw [w64_in (x := k + 1) (by omega) (by omega), show recur_HandoverOf (o, l) (L.1, L.2.1, (L.2.2.1.1, L.2.2.1.2), L.2.2.2.1, L.2.2.2.2.1, L.2.2.2.2.2.1, L.2.2.2.2.2.2.1, L.2.2.2.2.2.2.2.1, L.2.2.2.2.2.2.2.2) (k + 1) = _ from hH]
    simp only [Option.bind_some]
    cases hx : hO o l L (k + 1) with
    | none =>
      simp only [Option.isSome_none, Bool.not_false, cond_true, lpK_inr]
      exact ⟨k, rfl, hk, hq, fun ⟨y, hy, _⟩ => by rw [hx] at hy; simp at hy⟩
    | some x =>
      have := hv x hx
      subst this
      simp only [Option.isSome_some, Bool.not_true, cond_false]
      by_cases hc : v > t
      · rw [dec_true hc, cond_true, lpK_inr]
        exact ⟨k, rfl, hk, hq, fun ⟨y, hy, hyt⟩ => by rw [hx] at hy; simp at hy; omega⟩
      · rw [dec_false hc, cond_false, lpK_inl]
        exact sh_l2 ht h n (k + 1) (by omega) (by omega) ⟨v, hx, by omega⟩

/-- The hours' shift. -/
theorem sh_hours {o : Int} {l : TrL} {L : LayerT} (h : Rt L) {t v : Int} (h0 : L.2.2.2.1 = 0) (htt : t ≤ 8589934592) (hf : fO o l (sLoc L 0) = some v) (hvt : v ≤ t) (hv0 : 0 ≤ v) :
    ShO o l L t ((t - v) / (3600 * L.2.2.2.2.1)) ∧ 0 ≤ (t - v) / (3600 * L.2.2.2.2.1) ∧ (t - v) / (3600 * L.2.2.2.2.1) ≤ 8589934592 := by
  have he0 := h.e0; have he1 := h.e1
  have q0 : 0 ≤ (t - v) / (3600 * L.2.2.2.2.1) := Int.ediv_nonneg (by omega) (by omega)
  have q1 : 3600 * L.2.2.2.2.1 * ((t - v) / (3600 * L.2.2.2.2.1)) ≤ t - v := Int.mul_ediv_self_le (by omega)
  have q2 : t - v < 3600 * L.2.2.2.2.1 * ((t - v) / (3600 * L.2.2.2.2.1)) + 3600 * L.2.2.2.2.1 := Int.lt_mul_ediv_self_add (by omega)
  have q3 : (t - v) / (3600 * L.2.2.2.2.1) ≤ t - v := Int.ediv_le_self _ (by omega)
  generalize (t - v) / (3600 * L.2.2.2.2.1) = K at *
  refine ⟨.inr ⟨q0, ⟨v + 3600 * L.2.2.2.2.1 * K, ?_, by omega⟩, ?_⟩, q0, by omega⟩
  · unfold hO
    rw [if_pos h0, hf]
    simp only [Option.bind_some]
    rw [if_pos (by omega)]
  · rintro ⟨y, hy, hyt⟩
    unfold hO at hy
    rw [if_pos h0, hf] at hy
    simp only [Option.bind_some, Int.mul_add, Int.mul_one] at hy
    split at hy
    · simp at hy; omega
    · simp at hy

theorem hO_zero {o : Int} {l : TrL} {L : LayerT} (h0 : L.2.2.2.1 = 0) {v : Int} (hv : hO o l L 0 = some v) : fO o l (sLoc L 0) = some v := by
  unfold hO at hv
  rw [if_pos h0] at hv
  cases hf : fO o l (sLoc L 0) with
  | none => rw [hf] at hv; simp at hv
  | some x =>
    rw [hf] at hv
    simp only [Option.bind_some, Int.mul_zero, Int.add_zero] at hv
    split at hv
    · simpa using hv
    · simp at hv

theorem recSh {o : Int} {l : TrL} (ht : TOk o l) {L : LayerT} (h : Rt L) {t : Int} (h0t : 0 ≤ t) (htt : t ≤ 8589934592) : ∃ K : Int, recur_ShiftOf (o, l) L t = some K ∧ ShO o l L t K := by
  have hs := h.step
  have hd0 := h.d0; have hd1 := h.d1; have he0 := h.e0; have he1 := h.e1
  obtain ⟨v0, hH, hv⟩ := recH ht h (k := 0) (by omega) (by omega)
  have hstep : recur_step (L.1, L.2.1, (L.2.2.1.1, L.2.2.1.2), L.2.2.2.1, L.2.2.2.2.1, L.2.2.2.2.2.1, L.2.2.2.2.2.2.1, L.2.2.2.2.2.2.2.1, L.2.2.2.2.2.2.2.2) = _ := step_any h
  simp only [recur_ShiftOf, show recur_HandoverOf (o, l) (L.1, L.2.1, (L.2.2.1.1, L.2.2.1.2), L.2.2.2.1, L.2.2.2.2.1, L.2.2.2.2.2.1, L.2.2.2.2.2.2.1, L.2.2.2.2.2.2.2.1, L.2.2.2.2.2.2.2.2) 0 = _ from hH, hstep, Option.bind_some]
  cases hx : hO o l L 0 with
  | none =>
    simp only [Option.isSome_none, Bool.not_false, cond_true]
    exact ⟨-1, rfl, .inl ⟨rfl, fun ⟨y, hy, _⟩ => by rw [hx] at hy; simp at hy⟩⟩
  | some v =>
    have := hv v hx
    subst this
    simp only [Option.isSome_some, Bool.not_true, cond_false]
    by_cases hc : v0 > t
    · rw [dec_true hc, cond_true]
      exact ⟨-1, rfl, .inl ⟨rfl, fun ⟨y, hy, hyt⟩ => by rw [hx] at hy; simp at hy; omega⟩⟩
    · rw [dec_false hc, cond_false]
      have hq : QO o l L t 0 := ⟨v0, hx, by omega⟩
      have hva := hO_at ht h (k := 0) (by omega) hx
      by_cases h0 : L.2.2.2.1 = 0
      · obtain ⟨s1, s2, s3⟩ := sh_hours (o := o) (l := l) h h0 htt (hO_zero h0 hx) (by omega) hva.1
        rw [beq_t h0, cond_true, w64_in (x := t - v0) (by omega) (by omega), w64_in (x := 3600 * L.2.2.2.2.1) (by omega) (by omega), beq_f (show ¬ 3600 * L.2.2.2.2.1 = 0 by omega), Int.tdiv_eq_ediv_of_nonneg (by omega), w64_in (x := (t - v0) / (3600 * L.2.2.2.2.1)) (by omega) (by omega)]
        exact ⟨_, rfl, s1⟩
      · obtain ⟨j, hj, j1, j2⟩ := ex_piece ht h0t htt
        have o0 := ht.of0 j hj; have o1 := ht.of1 j hj
        rw [beq_f h0, cond_false, Local_ok ht hj j1 j2]
        simp only [Option.bind_some]
        generalize hld : (t + tof o l j) / 86400 = ld
        rw [beq_f (show ¬ stepD L = 0 by omega), w64_in (x := ld - L.2.2.1.1) (by omega) (by omega)]
        simp only [Bool.not_false, cond_true]
        obtain ⟨n, hn, hn2⟩ : ∃ n : Nat, (if w64 (Int.tdiv (ld - L.2.2.1.1) (stepD L)) > 0 then w64 (Int.tdiv (ld - L.2.2.1.1) (stepD L)) else 0) = (n : Int) ∧ (n : Int) ≤ 8589934592 := by
          by_cases hneg : 0 ≤ ld - L.2.2.1.1
          · rw [Int.tdiv_eq_ediv_of_nonneg hneg]
            have q0 : 0 ≤ (ld - L.2.2.1.1) / stepD L := Int.ediv_nonneg hneg (by omega)
            have q1 : (ld - L.2.2.1.1) / stepD L ≤ ld - L.2.2.1.1 := Int.ediv_le_self _ hneg
            rw [w64_in (by omega) (by omega)]
            refine ⟨((ld - L.2.2.1.1) / stepD L).toNat, ?_, ?_⟩
            · split <;> omega
            · omega
          · have e : Int.tdiv (ld - L.2.2.1.1) (stepD L) = -((-(ld - L.2.2.1.1)) / stepD L) := by
              rw [← Int.tdiv_eq_ediv_of_nonneg (by omega), Int.neg_tdiv, Int.neg_neg]
            have q0 : 0 ≤ (-(ld - L.2.2.1.1)) / stepD L := Int.ediv_nonneg (by omega) (by omega)
            have q1 : (-(ld - L.2.2.1.1)) / stepD L ≤ -(ld - L.2.2.1.1) := Int.ediv_le_self _ (by omega)
            rw [e, w64_in (by omega) (by omega), if_neg (by omega)]
            exact ⟨0, rfl, by omega⟩
        rw [hn]
        obtain ⟨k, e, k0, k1⟩ := sh_l0 ht h (Int.le_refl _) hq n hn2
        have hkb := k1
        obtain ⟨y, hy, _⟩ := hkb
        have hkk := hO_at ht h k0 hy
        obtain ⟨K, e2, K0, K1, K2⟩ := sh_l2 ht h (t := t) (2386093 - k).toNat k (by omega) k0 k1
        simp only [e, Option.bind_some, e2]
        exact ⟨K, rfl, .inr ⟨K0, K1, K2⟩⟩

theorem r10_l0 {z : ZoneT} {l : TrL} (hz : Z4 z l) {L : LayerT} (h : Rt L) {t N : Int} (hN : N ≤ 8589934592) : ∀ n : Nat, (n : Int) ≤ N →
    ∃ K : Int, r10_shift_l0 t ((n : Int) - 1) z.1 z.2.1 z.2.2 L.1 L.2.1 L.2.2.1.1 L.2.2.1.2 L.2.2.2.1 L.2.2.2.2.1 L.2.2.2.2.2.1 L.2.2.2.2.2.2.1 L.2.2.2.2.2.2.2.1 L.2.2.2.2.2.2.2.2 = some K ∧
      (K = -1 ∨ 0 ≤ K ∧ QO z.2.1 l L t K) ∧ K < n ∧ ∀ j : Int, K < j → 0 ≤ j → j < n → ¬ QO z.2.1 l L t j
  | 0, _ => by
    rw [r10_shift_l0_eq]
    simp only [r10_shift_l0_step]
    rw [dec_false (by omega), cond_false, lpK_inr]
    exact ⟨_, rfl, .inl (by omega), by omega, fun j h1 h2 h3 => by omega⟩
  | n + 1, hn => by
    obtain ⟨K, e, k0, k1, k2⟩ := r10_l0 hz h (t := t) hN n (by omega)
    obtain ⟨v, hH, hv⟩ := r10H hz h (k := (n : Int)) (by omega) (by omega)
    rw [r10_shift_l0_eq, show ((n + 1 : Nat) : Int) - 1 = (n : Int) by omega]
    simp only [r10_shift_l0_step]
    rw [dec_true (by omega), cond_true, show r10_handover (z.1, (z.2.1, z.2.2)) (L.1, L.2.1, (L.2.2.1.1, L.2.2.1.2), L.2.2.2.1, L.2.2.2.2.1, L.2.2.2.2.2.1, L.2.2.2.2.2.2.1, L.2.2.2.2.2.2.2.1, L.2.2.2.2.2.2.2.2) (n : Int) = _ from hH]
    simp only [Option.bind_some]
    rw [w64_in (x := (n : Int) - 1) (by omega) (by omega)]
    have down : ¬ QO z.2.1 l L t (n : Int) → (lpK (some (Sum.inl (t, (n : Int) - 1, z.1, z.2.1, z.2.2, L.1, L.2.1, L.2.2.1.1, L.2.2.1.2, L.2.2.2.1, L.2.2.2.2.1, L.2.2.2.2.2.1, L.2.2.2.2.2.2.1, L.2.2.2.2.2.2.2.1, L.2.2.2.2.2.2.2.2)) : Option ((Int × Int × ByteArray × Int × List Rule × ByteArray × Int × Int × Int × Int × Int × List Int × WL × Int × Int) ⊕ Int)) (fun h => r10_shift_l0 h.1 h.2.1 h.2.2.1 h.2.2.2.1 h.2.2.2.2.1 h.2.2.2.2.2.1 h.2.2.2.2.2.2.1 h.2.2.2.2.2.2.2.1 h.2.2.2.2.2.2.2.2.1 h.2.2.2.2.2.2.2.2.2.1 h.2.2.2.2.2.2.2.2.2.2.1 h.2.2.2.2.2.2.2.2.2.2.2.1 h.2.2.2.2.2.2.2.2.2.2.2.2.1 h.2.2.2.2.2.2.2.2.2.2.2.2.2.1 h.2.2.2.2.2.2.2.2.2.2.2.2.2.2)) = some K ∧ ∀ j : Int, K < j → 0 ≤ j → j < ((n + 1 : Nat) : Int) → ¬ QO z.2.1 l L t j := by
      intro hq
      refine ⟨by rw [lpK_inl]; exact e, fun j h1 h2 h3 => ?_⟩
      by_cases hjn : j < n
      · exact k2 j h1 h2 hjn
      · rw [show j = (n : Int) by omega]; exact hq
    cases hx : hO z.2.1 l L (n : Int) with
    | none =>
      simp only [Option.isSome_none, cond_false]
      obtain ⟨d1, d2⟩ := down fun ⟨y, hy, _⟩ => by rw [hx] at hy; simp at hy
      exact ⟨K, d1, k0, by omega, d2⟩
    | some x =>
      have := hv x hx
      subst this
      simp only [Option.isSome_some, cond_true]
      by_cases hc : v ≤ t
      · rw [dec_true hc, cond_true, lpK_inr]
        exact ⟨_, rfl, .inr ⟨by omega, v, hx, hc⟩, by omega, fun j h1 h2 h3 => by omega⟩
      · rw [dec_false hc, cond_false]
        obtain ⟨d1, d2⟩ := down fun ⟨y, hy, hyt⟩ => by rw [hx] at hy; simp at hy; omega
        exact ⟨K, d1, k0, by omega, d2⟩

theorem r10Sh {z : ZoneT} {l : TrL} (hz : Z4 z l) {L : LayerT} (h : Rt L) {t : Int} (h0t : 0 ≤ t) (htt : t ≤ 8589934592) : ∃ K : Int, r10_shift z L t = some K ∧ ShO z.2.1 l L t K := by
  have hs := h.step
  have hd0 := h.d0; have hd1 := h.d1; have he0 := h.e0; have he1 := h.e1; have hc0 := h.c0; have hc1 := h.c1
  simp only [r10_shift]
  by_cases h0 : L.2.2.2.1 = 0
  · have hF := r4First_any hz (d := L.2.2.1.1) (c := L.2.2.1.2) (by omega) hc0 hc1
    have hs0 : L.2.2.1.1 * 86400 + L.2.2.1.2 = sLoc L 0 := by unfold sLoc; omega
    rw [beq_t h0, cond_true, show r04_First (z.1, (z.2.1, z.2.2)) (L.2.2.1.1, L.2.2.1.2) = _ from hF, hs0]
    simp only [Option.bind_some]
    have nq : (∀ v, fO z.2.1 l (sLoc L 0) = some v → t < v) → ¬ QO z.2.1 l L t 0 := by
      rintro hn ⟨y, hy, hyt⟩
      have := hn y (hO_zero h0 hy)
      omega
    cases hf : fO z.2.1 l (sLoc L 0) with
    | none => exact ⟨-1, rfl, .inl ⟨rfl, nq fun v hv => by rw [hf] at hv; simp at hv⟩⟩
    | some v =>
      have hva := fO_at hz.2 hf
      simp only [beq_self_eq_true, cond_true]
      by_cases hc : v ≤ t
      · obtain ⟨s1, s2, s3⟩ := sh_hours (o := z.2.1) (l := l) h h0 htt hf hc hva.2.1
        rw [dec_true hc, cond_true, w64_in (x := t - v) (by omega) (by omega), w64_in (x := 3600 * L.2.2.2.2.1) (by omega) (by omega), beq_f (show ¬ 3600 * L.2.2.2.2.1 = 0 by omega), Int.tdiv_eq_ediv_of_nonneg (by omega), w64_in (x := (t - v) / (3600 * L.2.2.2.2.1)) (by omega) (by omega)]
        exact ⟨_, rfl, s1⟩
      · rw [dec_false hc]
        exact ⟨-1, rfl, .inl ⟨rfl, nq fun v' hv => by rw [hf] at hv; simp at hv; omega⟩⟩
  · obtain ⟨j, hj, j1, j2⟩ := ex_piece hz.2 h0t htt
    have o0 := hz.2.of0 j hj; have o1 := hz.2.of1 j hj
    have eT := r4ToL_ok hz (t := t) h0t htt hj j1 j2
    rw [beq_f h0, cond_false, show r04_ToLocal (z.1, (z.2.1, z.2.2)) t = _ from eT]
    simp only [Option.bind_some]
    have hday : ∀ k : Int, QO z.2.1 l L t k → L.2.2.1.1 + k * stepD L ≤ (t + tof z.2.1 l j) / 86400 + 2 := fun k hq => QO.day hz.2 h h0 hq hj
    generalize hld : (t + tof z.2.1 l j) / 86400 = ld at hday
    rw [w64_in (x := ld + 2) (by omega) (by omega), w64_in (x := ld + 2 - L.2.2.1.1) (by omega) (by omega)]
    have fin : ∀ st : Int, st = stepD L → ∃ K : Int, ((r10_shift_l0 t (w64 (Int.tdiv (if (0 : Int) > ld + 2 - L.2.2.1.1 then (0 : Int) else ld + 2 - L.2.2.1.1) st)) z.1 z.2.1 z.2.2 L.1 L.2.1 L.2.2.1.1 L.2.2.1.2 L.2.2.2.1 L.2.2.2.2.1 L.2.2.2.2.2.1 L.2.2.2.2.2.2.1 L.2.2.2.2.2.2.2.1 L.2.2.2.2.2.2.2.2).bind fun q0 => some q0) = some K ∧ ShO z.2.1 l L t K := by
      rintro st rfl
      obtain ⟨m, hm, hm0, hm1⟩ : ∃ m : Int, (if (0 : Int) > ld + 2 - L.2.2.1.1 then (0 : Int) else ld + 2 - L.2.2.1.1) = m ∧ 0 ≤ m ∧ m ≤ 1000000 := ⟨_, rfl, by split <;> omega, by split <;> omega⟩
      have hml : ld + 2 - L.2.2.1.1 ≤ m := by rw [← hm]; split <;> omega
      rw [hm, Int.tdiv_eq_ediv_of_nonneg hm0]
      have q0 : 0 ≤ m / stepD L := Int.ediv_nonneg hm0 (by omega)
      have q1 : m / stepD L ≤ m := Int.ediv_le_self _ hm0
      have q2 : m < stepD L * (m / stepD L) + stepD L := Int.lt_mul_ediv_self_add (by omega)
      rw [w64_in (by omega) (by omega)]
      generalize m / stepD L = km at *
      obtain ⟨K, e, k0, k1, k2⟩ := r10_l0 hz h (t := t) (Int.le_refl _) (km + 1).toNat (by omega)
      rw [show (((km + 1).toNat : Nat) : Int) - 1 = km by omega] at e
      rw [e]
      refine ⟨K, rfl, ?_⟩
      have top : ¬ QO z.2.1 l L t (K + 1) := by
        by_cases hK : K + 1 ≤ km
        · exact k2 (K + 1) (by omega) (by rcases k0 with k0 | k0 <;> omega) (by omega)
        · intro hq
          have hd := hday _ hq
          have hkk : K = km := by omega
          rw [hkk, Int.add_mul, Int.one_mul] at hd
          have : stepD L * km = km * stepD L := Int.mul_comm _ _
          omega
      rcases k0 with k0 | k0
      · subst k0; exact .inl ⟨rfl, top⟩
      · exact .inr ⟨k0.1, k0.2, top⟩
    by_cases h2 : L.2.2.2.1 = 2
    · have hsd : stepD L = 7 * L.2.2.2.2.1 := by unfold stepD; rw [if_pos h2]
      rw [beq_t h2, cond_true, w64_in (x := L.2.2.2.2.1 * 7) (by omega) (by omega), beq_f (show ¬ L.2.2.2.2.1 * 7 = 0 by omega)]
      simp only [Bool.not_false, cond_true]
      exact fin _ (by rw [hsd, Int.mul_comm])
    · have hsd : stepD L = L.2.2.2.2.1 := by unfold stepD; rw [if_neg h2]
      rw [beq_f h2, cond_false, beq_f (show ¬ L.2.2.2.2.1 = 0 by omega)]
      simp only [Bool.not_false, cond_true]
      exact fin _ hsd.symm
end Go.Proofs.Pw

/- Chapter 10: all functions of package recur and their references, for any layer. -/
open Go Go.Lft
namespace Go.Proofs.Pw

instance (L : LayerT) : Decidable (Rt L) :=
  decidable_of_iff (1 ≤ L.2.2.1.1 ∧ L.2.2.1.1 ≤ 100000 ∧ 0 ≤ L.2.2.1.2 ∧ L.2.2.1.2 ≤ 86399 ∧ 0 ≤ L.2.2.2.1 ∧ L.2.2.2.1 ≤ 2 ∧ 1 ≤ L.2.2.2.2.1 ∧ L.2.2.2.2.1 ≤ 400 ∧ L.2.2.2.2.2.1 ≠ [])
    ⟨fun ⟨a, b, c, d, e, f, g, h, i⟩ => ⟨a, b, c, d, e, f, g, h, i⟩, fun ⟨a, b, c, d, e, f, g, h, i⟩ => ⟨a, b, c, d, e, f, g, h, i⟩⟩

theorem rin_f {n lo hi : Int} (h : ¬ (lo ≤ n ∧ n ≤ hi)) : recur_in n lo hi = some false := by
  simp only [recur_in]
  by_cases h1 : n ≥ lo
  · rw [dec_true h1, dec_false (fun h2 => h ⟨h1, h2⟩)]; rfl
  · rw [dec_false h1]; rfl

theorem right_any (L : LayerT) : recur_right L = some (decide (Rt L)) := by
  simp only [recur_right]
  by_cases h1 : 1 ≤ L.2.2.1.1 ∧ L.2.2.1.1 ≤ 100000
  · rw [recur_in_t h1.1 h1.2]
    by_cases h2 : 0 ≤ L.2.2.1.2 ∧ L.2.2.1.2 ≤ 86399
    · rw [recur_in_t h2.1 h2.2]
      by_cases h3 : 0 ≤ L.2.2.2.1 ∧ L.2.2.2.1 ≤ 2
      · rw [recur_in_t h3.1 h3.2]
        by_cases h4 : 1 ≤ L.2.2.2.2.1 ∧ L.2.2.2.2.1 ≤ 400
        · rw [recur_in_t h4.1 h4.2]
          simp only [Option.bind_some, cond_true]
          by_cases h5 : L.2.2.2.2.2.1 = []
          · rw [dec_false (show ¬ Rt L from fun h => h.m0 h5), h5]; rfl
          · rw [dec_true (show Rt L from ⟨h1.1, h1.2, h2.1, h2.2, h3.1, h3.2, h4.1, h4.2, h5⟩), dec_true (show Int.ofNat L.2.2.2.2.2.1.length > 0 by
              have := List.length_pos_iff.2 h5
              show (0 : Int) < (L.2.2.2.2.2.1.length : Int); omega)]
        · rw [rin_f h4, dec_false (show ¬ Rt L from fun h => h4 ⟨h.e0, h.e1⟩)]; rfl
      · rw [rin_f h3, dec_false (show ¬ Rt L from fun h => h3 ⟨h.u0, h.u1⟩)]; rfl
    · rw [rin_f h2, dec_false (show ¬ Rt L from fun h => h2 ⟨h.c0, h.c1⟩)]; rfl
  · rw [rin_f h1, dec_false (show ¬ Rt L from fun h => h1 ⟨h.d0, h.d1⟩)]; rfl

section
variable {z : ZoneT} {l : TrL} (hz : ZTab z l) (h4 : Z4 z l)
include hz

theorem open_any (L : LayerT) : recur_open z L = some ((z.2.1, l), decide (Rt L)) := by
  simp only [recur_open, show zone_Of (z.1, (z.2.1, z.2.2)) = _ from Of_ok hz, Option.bind_some, beq_self_eq_true, cond_true]
  rw [show recur_right (L.1, L.2.1, (L.2.2.1.1, L.2.2.1.2), L.2.2.2.1, L.2.2.2.2.1, L.2.2.2.2.2.1, L.2.2.2.2.2.2.1, L.2.2.2.2.2.2.2.1, L.2.2.2.2.2.2.2.2) = _ from right_any L]
  rfl

omit hz
include h4

theorem check10_any (L : LayerT) : r10_Check z L = some (if Rt L then 0 else 8) := by
  have hc : r04_Check (z.1, (z.2.1, z.2.2)) = some 0 := by
    simp only [r04_Check, show r04_Transitions (z.1, (z.2.1, z.2.2)) = _ from h4.1, Option.bind_some]
  simp only [r10_Check, hc, Option.bind_some, bne_self_eq_false, cond_false]
  have key : (cond (cond (cond (cond (cond (cond (cond (cond (decide (L.2.2.1.1 < 1)) true (decide (L.2.2.1.1 > 100000))) true (decide (L.2.2.1.2 < 0))) true (decide (L.2.2.1.2 ≥ 86400))) true (decide (L.2.2.2.1 < 0))) true (decide (L.2.2.2.1 > 2))) true (decide (L.2.2.2.2.1 < 1))) true (decide (L.2.2.2.2.1 > 400))) true (Int.ofNat L.2.2.2.2.2.1.length == 0)) = !decide (Rt L) := by
    have hlen : (Int.ofNat L.2.2.2.2.2.1.length == 0) = decide (L.2.2.2.2.2.1 = []) := by
      cases L.2.2.2.2.2.1 with
      | nil => rfl
      | cons x r => simp; omega
    rw [hlen]
    rw [Bool.eq_iff_iff]
    simp only [Bool.not_eq_true', decide_eq_false_iff_not]
    constructor
    · intro hh h
      have a1 := h.d0; have a2 := h.d1; have a3 := h.c0; have a4 := h.c1; have a5 := h.u0; have a6 := h.u1; have a7 := h.e0; have a8 := h.e1
      rw [dec_false (show ¬ L.2.2.1.1 < 1 by omega), dec_false (show ¬ L.2.2.1.1 > 100000 by omega), dec_false (show ¬ L.2.2.1.2 < 0 by omega), dec_false (show ¬ L.2.2.1.2 ≥ 86400 by omega), dec_false (show ¬ L.2.2.2.1 < 0 by omega), dec_false (show ¬ L.2.2.2.1 > 2 by omega), dec_false (show ¬ L.2.2.2.2.1 < 1 by omega), dec_false (show ¬ L.2.2.2.2.1 > 400 by omega), dec_false h.m0] at hh
      simp at hh
    · intro hn
      by_cases a1 : L.2.2.1.1 < 1
      · rw [dec_true a1]; rfl
      rw [dec_false a1]
      by_cases a2 : L.2.2.1.1 > 100000
      · rw [dec_true a2]; rfl
      rw [dec_false a2]
      by_cases a3 : L.2.2.1.2 < 0
      · rw [dec_true a3]; rfl
      rw [dec_false a3]
      by_cases a4 : L.2.2.1.2 ≥ 86400
      · rw [dec_true a4]; rfl
      rw [dec_false a4]
      by_cases a5 : L.2.2.2.1 < 0
      · rw [dec_true a5]; rfl
      rw [dec_false a5]
      by_cases a6 : L.2.2.2.1 > 2
      · rw [dec_true a6]; rfl
      rw [dec_false a6]
      by_cases a7 : L.2.2.2.2.1 < 1
      · rw [dec_true a7]; rfl
      rw [dec_false a7]
      by_cases a8 : L.2.2.2.2.1 > 400
      · rw [dec_true a8]; rfl
      rw [dec_false a8]
      by_cases a9 : L.2.2.2.2.2.1 = []
      · rw [dec_true a9]; rfl
      exact absurd ⟨by omega, by omega, by omega, by omega, by omega, by omega, by omega, by omega, a9⟩ hn
  rw [key]
  by_cases h : Rt L
  · rw [dec_true h, if_pos h]; rfl
  · rw [dec_false h, if_neg h]; rfl

include hz

theorem hand_both (L : LayerT) (k : Int) : ∃ r, recur_Handover z L k = some r ∧ r10_Handover z L k = some r := by
  have e1 : recur_open (z.1, (z.2.1, z.2.2)) (L.1, L.2.1, (L.2.2.1.1, L.2.2.1.2), L.2.2.2.1, L.2.2.2.2.1, L.2.2.2.2.2.1, L.2.2.2.2.2.2.1, L.2.2.2.2.2.2.2.1, L.2.2.2.2.2.2.2.2) = _ := open_any hz L
  have e2 : r10_Check (z.1, (z.2.1, z.2.2)) (L.1, L.2.1, (L.2.2.1.1, L.2.2.1.2), L.2.2.2.1, L.2.2.2.2.1, L.2.2.2.2.2.1, L.2.2.2.2.2.2.1, L.2.2.2.2.2.2.2.1, L.2.2.2.2.2.2.2.2) = _ := check10_any h4 L
  simp only [recur_Handover, r10_Handover, e1, e2, Option.bind_some]
  by_cases h : Rt L
  · rw [dec_true h, if_pos h]
    simp only [Bool.not_true, cond_false, bne_self_eq_false]
    by_cases hk : k < 0
    · rw [dec_true hk]; exact ⟨_, rfl, rfl⟩
    · rw [dec_false hk]
      simp only [cond_false]
      have big : k > 2386092 → hO z.2.1 l L k = none := by
        intro hb
        cases hx : hO z.2.1 l L k with
        | none => rfl
        | some t => have := hO_at hz.2 h (by omega) hx; omega
      by_cases hb : k > 2386092
      · rw [dec_true hb, cond_true]
        by_cases hbb : k ≤ 8589934592
        · obtain ⟨v, ev, hv⟩ := recH hz.2 h (k := k) (by omega) hbb
          rw [show recur_HandoverOf (z.2.1, l) (L.1, L.2.1, (L.2.2.1.1, L.2.2.1.2), L.2.2.2.1, L.2.2.2.2.1, L.2.2.2.2.2.1, L.2.2.2.2.2.2.1, L.2.2.2.2.2.2.2.1, L.2.2.2.2.2.2.2.2) k = _ from ev, big hb]
          exact ⟨_, rfl, rfl⟩
        · simp only [recur_HandoverOf]
          rw [dec_true (show k > 8589934592 by omega)]
          exact ⟨_, rfl, rfl⟩
      · rw [dec_false hb, cond_false]
        obtain ⟨v, ev, hv⟩ := recH hz.2 h (k := k) (by omega) (by omega)
        obtain ⟨v', ev', hv'⟩ := r10H h4 h (k := k) (by omega) (by omega)
        rw [show recur_HandoverOf (z.2.1, l) (L.1, L.2.1, (L.2.2.1.1, L.2.2.1.2), L.2.2.2.1, L.2.2.2.2.1, L.2.2.2.2.2.1, L.2.2.2.2.2.2.1, L.2.2.2.2.2.2.2.1, L.2.2.2.2.2.2.2.2) k = _ from ev, show r10_handover (z.1, (z.2.1, z.2.2)) (L.1, L.2.1, (L.2.2.1.1, L.2.2.1.2), L.2.2.2.1, L.2.2.2.2.1, L.2.2.2.2.2.1, L.2.2.2.2.2.2.1, L.2.2.2.2.2.2.2.1, L.2.2.2.2.2.2.2.2) k = _ from ev']
        cases hx : hO z.2.1 l L k with
        | none => exact ⟨_, rfl, rfl⟩
        | some t =>
          have := hv t hx; have := hv' t hx
          subst v; subst v'
          exact ⟨_, rfl, rfl⟩
  · rw [dec_false h, if_neg h]
    exact ⟨_, rfl, rfl⟩

theorem shift_both (L : LayerT) (t : Int) : ∃ r, recur_Shift z L t = some r ∧ r10_Shift z L t = some r ∧ (r.2 ≠ 0 → r.1 = 0) ∧ (r.2 = 0 → Rt L ∧ -1 ≤ r.1) := by
  have e1 : recur_open (z.1, (z.2.1, z.2.2)) (L.1, L.2.1, (L.2.2.1.1, L.2.2.1.2), L.2.2.2.1, L.2.2.2.2.1, L.2.2.2.2.2.1, L.2.2.2.2.2.2.1, L.2.2.2.2.2.2.2.1, L.2.2.2.2.2.2.2.2) = _ := open_any hz L
  have e2 : r10_Check (z.1, (z.2.1, z.2.2)) (L.1, L.2.1, (L.2.2.1.1, L.2.2.1.2), L.2.2.2.1, L.2.2.2.2.1, L.2.2.2.2.2.1, L.2.2.2.2.2.2.1, L.2.2.2.2.2.2.2.1, L.2.2.2.2.2.2.2.2) = _ := check10_any h4 L
  simp only [recur_Shift, r10_Shift, e1, e2, Option.bind_some]
  by_cases h : Rt L
  · rw [dec_true h, if_pos h]
    simp only [Bool.not_true, cond_false, bne_self_eq_false]
    by_cases ht : 0 ≤ t ∧ t ≤ 8589934592
    · obtain ⟨K, eK, hK⟩ := recSh hz.2 h ht.1 ht.2
      obtain ⟨K', eK', hK'⟩ := r10Sh h4 h ht.1 ht.2
      have := ShO.uniq hz.2 h hK hK'
      subst this
      rw [recur_in_t ht.1 ht.2, dec_false (show ¬ t < 0 by omega), dec_false (show ¬ t > 8589934592 by omega)]
      simp only [Option.bind_some, Bool.not_true, cond_false]
      rw [show recur_ShiftOf (z.2.1, l) (L.1, L.2.1, (L.2.2.1.1, L.2.2.1.2), L.2.2.2.1, L.2.2.2.2.1, L.2.2.2.2.2.1, L.2.2.2.2.2.2.1, L.2.2.2.2.2.2.2.1, L.2.2.2.2.2.2.2.2) t = _ from eK, show r10_shift (z.1, (z.2.1, z.2.2)) (L.1, L.2.1, (L.2.2.1.1, L.2.2.1.2), L.2.2.2.1, L.2.2.2.2.1, L.2.2.2.2.2.1, L.2.2.2.2.2.2.1, L.2.2.2.2.2.2.2.1, L.2.2.2.2.2.2.2.2) t = _ from eK']
      refine ⟨_, rfl, rfl, fun hh => absurd rfl hh, fun _ => ⟨h, ?_⟩⟩
      rcases hK with ⟨hK, _⟩ | ⟨hK, _⟩
      · dsimp only; omega
      · dsimp only; omega
    · rw [rin_f ht]
      have : (cond (decide (t < 0)) true (decide (t > 8589934592))) = true := by
        by_cases h1 : t < 0
        · rw [dec_true h1]; rfl
        · rw [dec_false h1, dec_true (show t > 8589934592 by omega)]; rfl
      rw [this]
      exact ⟨_, rfl, rfl, fun _ => rfl, fun hh => by simp at hh⟩
  · rw [dec_false h, if_neg h]
    exact ⟨_, rfl, rfl, fun _ => rfl, fun hh => by simp at hh⟩

theorem turn_both (L : LayerT) (t : Int) : ∃ r, recur_Turn z L t = some r ∧ r10_Turn z L t = some r := by
  obtain ⟨r, e1, e2, hr, hr0⟩ := shift_both hz h4 L t
  have e1 : recur_Shift (z.1, (z.2.1, z.2.2)) (L.1, L.2.1, (L.2.2.1.1, L.2.2.1.2), L.2.2.2.1, L.2.2.2.2.1, L.2.2.2.2.2.1, L.2.2.2.2.2.2.1, L.2.2.2.2.2.2.2.1, L.2.2.2.2.2.2.2.2) t = _ := e1
  have e2 : r10_Shift (z.1, (z.2.1, z.2.2)) (L.1, L.2.1, (L.2.2.1.1, L.2.2.1.2), L.2.2.2.1, L.2.2.2.2.1, L.2.2.2.2.2.1, L.2.2.2.2.2.2.1, L.2.2.2.2.2.2.2.1, L.2.2.2.2.2.2.2.2) t = _ := e2
  simp only [recur_Turn, r10_Turn, e1, e2, Option.bind_some]
  cases hc : cond (r.2 != (0 : Int)) true (decide (r.1 < (0 : Int))) with
  | true =>
    simp only [cond_true]
    by_cases h2 : r.2 = 0
    · have := hr0 h2
      by_cases h1 : r.1 < 0
      · rw [if_neg (show ¬ (0 : Int) < r.1 by omega)]
        exact ⟨_, rfl, rfl⟩
      · rw [h2, dec_false h1] at hc; simp at hc
    · rw [hr h2]
      exact ⟨_, rfl, rfl⟩
  | false =>
    simp only [cond_false]
    have h2 : r.2 = 0 := by
      cases h2 : r.2 != (0 : Int) with
      | true => rw [h2] at hc; simp at hc
      | false => simpa using h2
    have hL := (hr0 h2).1
    have := List.length_pos_iff.2 hL.m0
    rw [beq_f (show ¬ Int.ofNat L.2.2.2.2.2.1.length = 0 by show ¬ ((L.2.2.2.2.2.1.length : Nat) : Int) = 0; omega)]
    exact ⟨_, rfl, rfl⟩

theorem hl_both {L : LayerT} (h : Rt L) (from_ to_ : Int) : ∀ (n : Nat) (k : Int) (acc : List Int), k + n = 2386093 → 0 ≤ k → (acc.length : Int) ≤ k →
    ∃ out, recur_HandoversOf_l0 from_ to_ k z.2.1 l L.1 L.2.1 L.2.2.1.1 L.2.2.1.2 L.2.2.2.1 L.2.2.2.2.1 L.2.2.2.2.2.1 L.2.2.2.2.2.2.1 L.2.2.2.2.2.2.2.1 L.2.2.2.2.2.2.2.2 acc = some out ∧
      r10_Handovers_l0 from_ to_ k z.1 z.2.1 z.2.2 L.1 L.2.1 L.2.2.1.1 L.2.2.1.2 L.2.2.2.1 L.2.2.2.2.1 L.2.2.2.2.2.1 L.2.2.2.2.2.2.1 L.2.2.2.2.2.2.2.1 L.2.2.2.2.2.2.2.2 acc = some (0, out) ∧ (out.length : Int) ≤ 2386094
  | n, k, acc, hn, hk, ha => by
    obtain ⟨v, ev, hv⟩ := recH hz.2 h (k := k) hk (by omega)
    obtain ⟨v', ev', hv'⟩ := r10H h4 h (k := k) hk (by omega)
    rw [recur_HandoversOf_l0_eq, r10_Handovers_l0_eq]
    simp only [recur_HandoversOf_l0_step, r10_Handovers_l0_step]
    rw [show recur_HandoverOf (z.2.1, l) (L.1, L.2.1, (L.2.2.1.1, L.2.2.1.2), L.2.2.2.1, L.2.2.2.2.1, L.2.2.2.2.2.1, L.2.2.2.2.2.2.1, L.2.2.2.2.2.2.2.1, L.2.2.2.2.2.2.2.2) k = _ from ev, show r10_handover (z.1, (z.2.1, z.2.2)) (L.1, L.2.1, (L.2.2.1.1, L.2.2.1.2), L.2.2.2.1, L.2.2.2.2.1, L.2.2.2.2.2.1, L.2.2.2.2.2.2.1, L.2.2.2.2.2.2.2.1, L.2.2.2.2.2.2.2.2) k = _ from ev']
    simp only [Option.bind_some]
    cases hx : hO z.2.1 l L k with
    | none =>
      simp only [Option.isSome_none, Bool.not_false, cond_true, lpK_inr]
      exact ⟨acc, rfl, rfl, by omega⟩
    | some t =>
      have := hv t hx; have := hv' t hx
      subst v; subst v'
      simp only [Option.isSome_some, Bool.not_true, cond_false]
      by_cases hto : t ≥ to_
      · rw [dec_true hto]
        simp only [cond_true, lpK_inr]
        exact ⟨acc, rfl, rfl, by omega⟩
      · rw [dec_false hto, dec_true (show acc.length + [t].length ≤ sizeMax by simp [sizeMax]; omega), w64_in (x := k + 1) (by omega) (by omega)]
        simp only [cond_true, cond_false]
        cases n with
        | zero =>
          have := hO_at hz.2 h hk hx
          omega
        | succ n =>
          by_cases hfr : t ≥ from_
          · rw [dec_true hfr]
            simp only [cond_true, lpK_inl]
            exact hl_both h from_ to_ n (k + 1) (acc ++ [t]) (by omega) (by omega) (by simp; omega)
          · rw [dec_false hfr]
            simp only [cond_false, lpK_inl]
            exact hl_both h from_ to_ n (k + 1) acc (by omega) (by omega) (by omega)

theorem hands_both (L : LayerT) (a b : Int) : ∃ r, recur_Handovers z L a b = some r ∧ r10_Handovers z L a b = some r ∧ (r.1.length : Int) ≤ 2386094 := by
  have e1 : recur_open (z.1, (z.2.1, z.2.2)) (L.1, L.2.1, (L.2.2.1.1, L.2.2.1.2), L.2.2.2.1, L.2.2.2.2.1, L.2.2.2.2.2.1, L.2.2.2.2.2.2.1, L.2.2.2.2.2.2.2.1, L.2.2.2.2.2.2.2.2) = _ := open_any hz L
  have e2 : r10_Check (z.1, (z.2.1, z.2.2)) (L.1, L.2.1, (L.2.2.1.1, L.2.2.1.2), L.2.2.2.1, L.2.2.2.2.1, L.2.2.2.2.2.1, L.2.2.2.2.2.2.1, L.2.2.2.2.2.2.2.1, L.2.2.2.2.2.2.2.2) = _ := check10_any h4 L
  simp only [recur_Handovers, r10_Handovers, e1, e2, Option.bind_some]
  by_cases h : Rt L
  · rw [dec_true h, if_pos h]
    simp only [Bool.not_true, cond_false, bne_self_eq_false, r05_Range, Option.bind_some]
    by_cases ha : 0 ≤ a ∧ a ≤ 8589934592
    · rw [recur_in_t ha.1 ha.2, dec_true (show a ≥ 0 from ha.1), dec_true ha.2]
      simp only [Option.bind_some, Bool.not_true, cond_false, cond_true]
      by_cases hb : a ≤ b ∧ b ≤ 8589934592
      · rw [recur_in_t hb.1 hb.2, dec_true (show b ≥ a from hb.1), dec_true hb.2, w64_in (x := b - a) (by omega) (by omega)]
        simp only [Option.bind_some, Bool.not_true, cond_false, cond_true]
        by_cases hq : b - a ≤ 34560000
        · rw [dec_true hq, dec_false (show ¬ b - a > 34560000 by omega)]
          simp only [Bool.not_true, cond_false]
          obtain ⟨K, eK, hK⟩ := recSh hz.2 h ha.1 ha.2
          obtain ⟨K', eK', hK'⟩ := r10Sh h4 h ha.1 ha.2
          have := ShO.uniq hz.2 h hK hK'
          subst this
          have hKb : K ≤ 2386092 := by
            rcases hK with ⟨hK, _⟩ | ⟨hK, ⟨y, hy, _⟩, _⟩
            · omega
            · exact (hO_at hz.2 h hK hy).2.2
          obtain ⟨out, o1, o2, o3⟩ := hl_both hz h4 h a b (2386093 - (if K > 0 then K else 0)).toNat (if K > 0 then K else 0) [] (by split <;> omega) (by split <;> omega) (by simp; split <;> omega)
          rw [show r10_shift (z.1, (z.2.1, z.2.2)) (L.1, L.2.1, (L.2.2.1.1, L.2.2.1.2), L.2.2.2.1, L.2.2.2.2.1, L.2.2.2.2.2.1, L.2.2.2.2.2.2.1, L.2.2.2.2.2.2.2.1, L.2.2.2.2.2.2.2.2) a = _ from eK']
          simp only [recur_HandoversOf, show recur_ShiftOf (z.2.1, l) (L.1, L.2.1, (L.2.2.1.1, L.2.2.1.2), L.2.2.2.1, L.2.2.2.2.1, L.2.2.2.2.2.1, L.2.2.2.2.2.2.1, L.2.2.2.2.2.2.2.1, L.2.2.2.2.2.2.2.2) a = _ from eK, Option.bind_some, o1, o2]
          exact ⟨_, rfl, rfl, o3⟩
        · rw [dec_false hq, dec_true (show b - a > 34560000 by omega)]
          exact ⟨_, rfl, rfl, by simp⟩
      · rw [rin_f hb]
        by_cases h1 : b ≥ a
        · rw [dec_true h1, dec_false (show ¬ b ≤ 8589934592 by omega)]
          exact ⟨_, rfl, rfl, by simp⟩
        · rw [dec_false h1]
          exact ⟨_, rfl, rfl, by simp⟩
    · rw [rin_f ha]
      by_cases h1 : a ≥ 0
      · rw [dec_true h1, dec_false (show ¬ a ≤ 8589934592 by omega)]
        exact ⟨_, rfl, rfl, by simp⟩
      · rw [dec_false h1]
        exact ⟨_, rfl, rfl, by simp⟩
  · rw [dec_false h, if_neg h]
    exact ⟨_, rfl, rfl, by simp⟩
end

theorem same_lp {s : List Int} (hs : (s.length : Int) ≤ 3000000) : ∀ (n i : Nat), i + n = s.length → law10_same_l0 s s (s.length : Int) (i : Int) = some (.inr ())
  | 0, i, hi => by
    rw [law10_same_l0_eq]
    simp only [law10_same_l0_step]
    rw [dec_false (by omega), cond_false, lpK_inr]
  | n + 1, i, hi => by
    rw [law10_same_l0_eq]
    simp only [law10_same_l0_step]
    rw [dec_true (by omega), inR_t (by omega) (by omega), w64_in (x := (i : Int) + 1) (by omega) (by omega)]
    simp only [cond_true, bne_self_eq_false, cond_false, lpK_inl]
    exact same_lp hs n (i + 1) (by omega)

theorem same_t {s : List Int} (hs : (s.length : Int) ≤ 3000000) : law10_same s s = some true := by
  have := same_lp hs s.length 0 (by omega)
  simp only [law10_same, bne_self_eq_false, cond_false, show Int.ofNat s.length = (s.length : Int) from rfl]
  rw [show (0 : Int) = ((0 : Nat) : Int) from rfl, this]
  rfl
end Go.Proofs.Pw
