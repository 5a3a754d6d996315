/- Counting instants: how long spans are, and how long the windows of a stretch of local time are. -/
import Derived.Test.YtpkigeapefgmjaaPD
import Derived.Test.YtpkigeapefgmjaaPF
import Derived.Test.YtpkigeapefgmjaaPB
import Derived.Test.YtpkigeapefgmjaaLD
set_option linter.unusedSectionVars false
open Go Go.Lft
namespace Go.Proofs.Pw

def cntB (f : Int → Bool) (a : Int) : Nat → Int
  | 0 => 0
  | n + 1 => cntB f a n + (cond (f (a + n)) 1 0)

theorem cnt_rng (f : Int → Bool) (a : Int) : ∀ n : Nat, 0 ≤ cntB f a n ∧ cntB f a n ≤ n
  | 0 => by simp [cntB]
  | n + 1 => by
    have := cnt_rng f a n
    simp only [cntB]
    cases f (a + n) <;> simp only [cond_true, cond_false] <;> omega
theorem cnt_add (f : Int → Bool) (a : Int) (n : Nat) : ∀ m : Nat, cntB f a (n + m) = cntB f a n + cntB f (a + n) m
  | 0 => by simp [cntB]
  | m + 1 => by
    have := cnt_add f a n m
    rw [show n + (m + 1) = (n + m) + 1 by omega]
    simp only [cntB]
    rw [this, show a + ((n + m : Nat) : Int) = a + (n : Int) + (m : Int) by omega]
    omega
theorem cnt_congr {f g : Int → Bool} {a : Int} : ∀ {n : Nat}, (∀ x, a ≤ x → x < a + n → f x = g x) → cntB f a n = cntB g a n
  | 0, _ => rfl
  | n + 1, h => by
    simp only [cntB]
    rw [cnt_congr (n := n) (fun x h1 h2 => h x h1 (by omega)), h (a + n) (by omega) (by omega)]
theorem cnt_shift (f : Int → Bool) (a c : Int) : ∀ n : Nat, cntB (fun x => f (x + c)) a n = cntB f (a + c) n
  | 0 => rfl
  | n + 1 => by
    simp only [cntB]
    rw [cnt_shift f a c n, show a + (n : Int) + c = a + c + n by omega]
theorem cnt_zero {f : Int → Bool} {a : Int} : ∀ {n : Nat}, (∀ x, a ≤ x → x < a + n → f x = false) → cntB f a n = 0
  | 0, _ => rfl
  | n + 1, h => by
    simp only [cntB]
    rw [cnt_zero (n := n) (fun x h1 h2 => h x h1 (by omega)), h (a + n) (by omega) (by omega)]; rfl
theorem cnt_one {f : Int → Bool} {a : Int} : ∀ {n : Nat}, (∀ x, a ≤ x → x < a + n → f x = true) → cntB f a n = n
  | 0, _ => rfl
  | n + 1, h => by
    simp only [cntB]
    rw [cnt_one (n := n) (fun x h1 h2 => h x h1 (by omega)), h (a + n) (by omega) (by omega)]
    simp only [cond_true]; omega

/-- Spans in order from p on. -/
def InO (p : Int) : SL → Prop
  | [] => True
  | x :: r => p ≤ x.1 ∧ x.1 < x.2 ∧ InO x.2 r

theorem InO.weak {p q : Int} (hq : q ≤ p) : ∀ {l : SL}, InO p l → InO q l
  | [], _ => trivial
  | _ :: _, h => ⟨by have := h.1; omega, h.2⟩
theorem StS.ino : ∀ {l : SL} {p : Int}, StS p l → InO (p + 1) l
  | [], _, _ => trivial
  | x :: r, p, h => ⟨by have := h.1; omega, h.2.1, (StS.ino h.2.2).weak (by omega)⟩
theorem WOk.ino : ∀ {l : WL} {p : Int}, WOk p l → InO p l
  | [], _, _ => trivial
  | _ :: _, _, h => ⟨h.1, h.2.1, WOk.ino h.2.2.2⟩
theorem ino_low : ∀ {l : SL} {p s : Int}, InO p l → s < p → hasB s l = false
  | [], _, _, _, _ => rfl
  | x :: r, p, s, h, hs => by
    obtain ⟨h1, h2, h3⟩ := h
    simp only [hasB]
    rw [dec_false (show ¬ x.1 ≤ s by omega), ino_low h3 (by omega)]
    rfl

theorem sum_cnt : ∀ {l : SL} {p : Int} {N : Nat}, InO p l → (∀ u ∈ l, u.2 ≤ p + N) → sumL l = cntB (fun s => hasB s l) p N
  | [], p, N, _, _ => (cnt_zero (f := fun s => hasB s []) (fun _ _ _ => rfl)).symm
  | x :: r, p, N, h, hb => by
    obtain ⟨h1, h2, h3⟩ := h
    have hx := hb x (by simp)
    obtain ⟨n1, e1⟩ : ∃ n1 : Nat, x.1 = p + n1 := ⟨(x.1 - p).toNat, by omega⟩
    obtain ⟨n2, e2⟩ : ∃ n2 : Nat, x.2 = x.1 + n2 := ⟨(x.2 - x.1).toNat, by omega⟩
    obtain ⟨n3, e3⟩ : ∃ n3 : Nat, N = n1 + n2 + n3 := ⟨N - n1 - n2, by omega⟩
    have ih := sum_cnt (l := r) (p := x.2) (N := n3) h3 (fun u hu => by have := hb u (by simp [hu]); omega)
    subst e3
    rw [cnt_add, cnt_add]
    rw [cnt_zero (a := p) (n := n1) (fun s s1 s2 => by
      simp only [hasB]; rw [dec_false (show ¬ x.1 ≤ s by omega), ino_low h3 (by omega)]; rfl)]
    rw [cnt_one (a := p + (n1 : Int)) (n := n2) (fun s s1 s2 => by
      simp only [hasB]; rw [dec_true (show x.1 ≤ s by omega), dec_true (show s < x.2 by omega)]; rfl)]
    rw [cnt_congr (a := p + ((n1 + n2 : Nat) : Int)) (g := fun s => hasB s r) (fun s s1 s2 => by
      simp only [hasB]; rw [dec_false (show ¬ s < x.2 by omega)]; cases decide (x.1 ≤ s) <;> rfl)]
    rw [show p + ((n1 + n2 : Nat) : Int) = x.2 by omega, ← ih]
    simp only [sumL]
    omega

/-- The windows of the week at a stretch of local time. -/
def wk (w : WL) (s : Int) : Bool := hasB (s % 604800) w

theorem wk_zero {w : WL} (hw : WOk 0 w) : cntB (wk w) 0 604800 = sumL w := by
  rw [sum_cnt (N := 604800) hw.ino (fun u hu => by
    obtain ⟨i, hi, rfl⟩ := List.getElem_of_mem hu
    have := wok_get hw i hi
    rw [show w.getD i (0, 0) = w[i] by simp [hi]] at this
    omega)]
  refine cnt_congr fun x h1 h2 => ?_
  simp only [wk]
  rw [show x % 604800 = x by omega]

theorem wk_week {w : WL} (hw : WOk 0 w) : ∀ a : Nat, cntB (wk w) (a : Int) 604800 = sumL w
  | 0 => wk_zero hw
  | a + 1 => by
    have ih := wk_week hw a
    have h1 := cnt_add (wk w) (a : Int) 1 604800
    have h2 := cnt_add (wk w) (a : Int) 604800 1
    rw [show 1 + 604800 = 604800 + 1 from rfl] at h1
    have h3 : cntB (wk w) ((a : Int) + ((604800 : Nat) : Int)) 1 = cntB (wk w) (a : Int) 1 := by
      simp only [cntB, wk]
      rw [show ((a : Int) + ((604800 : Nat) : Int) + ((0 : Nat) : Int)) % 604800 = ((a : Int) + ((0 : Nat) : Int)) % 604800 by omega]
    rw [show ((a + 1 : Nat) : Int) = (a : Int) + ((1 : Nat) : Int) by omega]
    omega

theorem cnt_move (f : Int → Bool) (y : Int) (d n : Nat) : cntB f (y + d) n - cntB f y n ≤ d ∧ -(d : Int) ≤ cntB f (y + d) n - cntB f y n := by
  have h1 := cnt_add f y d n
  have h2 := cnt_add f y n d
  rw [show n + d = d + n by omega] at h2
  have r1 := cnt_rng f y d
  have r2 := cnt_rng f (y + n) d
  omega

theorem cnt_move' (f : Int → Bool) (y c : Int) (n : Nat) {e : Int} (h1 : c ≤ e) (h2 : -c ≤ e) : cntB f (y + c) n - cntB f y n ≤ e ∧ -e ≤ cntB f (y + c) n - cntB f y n := by
  by_cases hc : 0 ≤ c
  · have := cnt_move f y c.toNat n
    rw [show ((c.toNat : Nat) : Int) = c by omega] at this
    omega
  · have := cnt_move f (y + c) (-c).toNat n
    rw [show y + c + (((-c).toNat : Nat) : Int) = y by omega] at this
    omega

/-! The reference's length. -/

theorem sumL_pos : ∀ {l : SL} {p : Int}, InO p l → 0 ≤ sumL l
  | [], _, _ => Int.le_refl _
  | x :: r, p, h => by
    have := sumL_pos h.2.2
    have := h.2.1
    simp only [sumL]; omega
theorem ino_drop : ∀ {l : SL} {p : Int}, InO p l → ∀ i, ∃ q, InO q (l.drop i)
  | [], p, _, i => ⟨p, by simp [InO]⟩
  | x :: r, p, h, 0 => ⟨p, h⟩
  | x :: r, p, h, i + 1 => ino_drop h.2.2 i

theorem L3_lp {l : SL} {p : Int} (h : StS p l) (hp : -1 ≤ p) (hl : l.length ≤ 4096) (hb : ∀ u ∈ l, u.2 ≤ 8589934592) : ∀ (n i : Nat) (s : Int), i + n = l.length → 0 ≤ s → s + sumL (l.drop i) ≤ 1000000000000 →
    r03_Length_l0 l s (i : Int) = some (s + sumL (l.drop i))
  | 0, i, s, hi, _, _ => by
    rw [r03_Length_l0_eq]
    simp only [r03_Length_l0_step, show Int.ofNat (List.length l) = (l.length : Int) from rfl]
    rw [dec_false (by omega), cond_false, lpK_inr, List.drop_of_length_le (by omega)]
    simp [sumL]
  | n + 1, i, s, hi, hs, hs2 => by
    have hlt : i < l.length := by omega
    have hgd : l.getD i ((0 : Int), (0 : Int)) = l[i] := by simp [hlt]
    have hg := sts_get h i hlt
    have hu := get_bd h hp hl hb i hlt
    rw [hgd] at hg hu
    obtain ⟨q, hq⟩ := ino_drop h.ino (i + 1)
    have hpos := sumL_pos hq
    rw [List.drop_eq_getElem_cons hlt] at hs2 ⊢
    simp only [sumL] at hs2 ⊢
    rw [r03_Length_l0_eq]
    simp only [r03_Length_l0_step, show Int.ofNat (List.length l) = (l.length : Int) from rfl, Valid3_ok h hp hl hb]
    rw [dec_true (show (i : Int) < (l.length : Int) by omega), inR_t (by omega) (by omega)]
    simp only [cond_true, Option.bind_some, Int.toNat_natCast, hgd]
    rw [w64_in (x := (i : Int) + 1) (by omega) (by omega), w64_in (x := l[i].2 - l[i].1) (by omega) (by omega), w64_in (x := s + (l[i].2 - l[i].1)) (by omega) (by omega), lpK_inl]
    have := L3_lp h hp hl hb n (i + 1) (s + (l[i].2 - l[i].1)) (by omega) (by omega) (by omega)
    rw [show s + (l[i].2 - l[i].1 + sumL (l.drop (i + 1))) = s + (l[i].2 - l[i].1) + sumL (l.drop (i + 1)) by omega]
    exact this

theorem Length3_ok {l : SL} {p : Int} (h : StS p l) (hp : -1 ≤ p) (hl : l.length ≤ 4096) (hb : ∀ u ∈ l, u.2 ≤ 8589934592) (hs : sumL l ≤ 1000000000000) : r03_Length l = some (sumL l) := by
  have := L3_lp h hp hl hb l.length 0 0 (by omega) (by omega) (by rw [List.drop_zero]; omega)
  rw [show ((0 : Nat) : Int) = 0 from rfl, List.drop_zero, Int.zero_add] at this
  simp only [r03_Length, this, Option.bind_some]
end Go.Proofs.Pw

/- Chapter 5: the law WeekLengths, on plain functions. -/
open Go Go.Lft
namespace Go.Proofs.Pw

theorem out_cnt {o : Int} {l : TrL} (h : TOk o l) {w : WL} (hw : WOk 0 w) {a : Int} (ha : 1000000 ≤ a) (hb : a + 604800 ≤ 8589934592) {out : SL} (s1 : StS (a - 1) out) (s2 : ∀ u ∈ out, a ≤ u.1 ∧ u.2 ≤ a + 604800)
    (s4 : ∀ k, k ≤ l.length → ∀ x, a ≤ x → x < a + 604800 → frm l k ≤ x → x < frm l (k + 1) → (inS x out ↔ hasB ((x + tof o l k + 259200) % 604800) w = true))
    {k0 k1 : Nat} (h0 : k0 ≤ l.length) (h1 : k1 ≤ l.length) (a1 : frm l k0 ≤ a) (a2 : a < frm l (k0 + 1)) (b1 : frm l k1 ≤ a + 604800) (b2 : a + 604800 < frm l (k1 + 1)) {e : Int} (e1 : tof o l k1 - tof o l k0 ≤ e) (e2 : -(tof o l k1 - tof o l k0) ≤ e) :
    sumL out - sumL w ≤ e ∧ -(sumL out - sumL w) ≤ e := by
  have hout : sumL out = cntB (fun s => hasB s out) a 604800 := sum_cnt (N := 604800) (by have := s1.ino; rwa [show a - 1 + 1 = a by omega] at this) (fun u hu => (s2 u hu).2)
  have hF : ∀ k, k ≤ l.length → ∀ x, a ≤ x → x < a + 604800 → frm l k ≤ x → x < frm l (k + 1) → hasB x out = wk w (x + (tof o l k + 259200)) := by
    intro k hk x x1 x2 x3 x4
    have := s4 k hk x x1 x2 x3 x4
    rw [Bool.eq_iff_iff]
    simp only [wk]
    rw [show x + (tof o l k + 259200) = x + tof o l k + 259200 by omega, ← this]
    exact has_iff
  have p0 := h.of0 k0 h0; have p1 := h.of1 k0 h0
  have hwk := wk_week hw (a + (tof o l k0 + 259200)).toNat
  rw [show (((a + (tof o l k0 + 259200)).toNat : Nat) : Int) = a + (tof o l k0 + 259200) by omega] at hwk
  rcases Nat.lt_trichotomy k0 k1 with hk | hk | hk
  · have hk1 : k1 = k0 + 1 := by
      rcases Nat.lt_or_ge (k0 + 1) k1 with h' | h'
      · have := h.frm_gap (i := k0 + 1) (j := k1) (by omega) h' h1; omega
      · omega
    subst hk1
    obtain ⟨n1, f1⟩ : ∃ n1 : Nat, frm l (k0 + 1) = a + n1 := ⟨(frm l (k0 + 1) - a).toNat, by omega⟩
    obtain ⟨n2, f2⟩ : ∃ n2 : Nat, 604800 = n1 + n2 := ⟨604800 - n1, by omega⟩
    have c1 : cntB (fun s => hasB s out) a n1 = cntB (wk w) (a + (tof o l k0 + 259200)) n1 := by
      rw [← cnt_shift (wk w)]
      exact cnt_congr (n := n1) fun x x1 x2 => hF k0 h0 x x1 (by omega) (by omega) (by omega)
    have c2 : cntB (fun s => hasB s out) (a + n1) n2 = cntB (wk w) (a + n1 + (tof o l (k0 + 1) + 259200)) n2 := by
      rw [← cnt_shift (wk w)]
      exact cnt_congr (a := a + n1) (n := n2) fun x x1 x2 => hF (k0 + 1) h1 x (by omega) (by omega) (by omega) (by omega)
    have d1 := cnt_add (fun s => hasB s out) a n1 n2
    have d2 := cnt_add (wk w) (a + (tof o l k0 + 259200)) n1 n2
    rw [← f2] at d1 d2
    have mv := cnt_move' (wk w) (a + (tof o l k0 + 259200) + n1) (tof o l (k0 + 1) - tof o l k0) n2 e1 e2
    rw [show a + (tof o l k0 + 259200) + (n1 : Int) + (tof o l (k0 + 1) - tof o l k0) = a + n1 + (tof o l (k0 + 1) + 259200) by omega] at mv
    omega
  · subst hk
    have c1 : cntB (fun s => hasB s out) a 604800 = cntB (wk w) (a + (tof o l k0 + 259200)) 604800 := by
      rw [← cnt_shift (wk w)]
      exact cnt_congr (n := 604800) fun x x1 x2 => hF k0 h0 x x1 (by omega) (by omega) (by omega)
    omega
  · have := h.frm_le (i := k1 + 1) (j := k0) hk (by omega); omega

theorem WeekLengths_true (t : List Int) (_h : Wf (.list (.int .i64)) t) : law05_WeekLengths t = some true := by
  simp only [law05_WeekLengths, made_Light, Option.bind_some, show Int.ofNat (List.length t) = (t.length : Int) from rfl]
  by_cases hl : (t.length : Int) ≤ 500
  · rw [dec_true hl]
    simp only [Bool.not_true, cond_false, made_Roll, Option.bind_some]
    obtain ⟨o, rs, a1, e1, hm, d1⟩ := Zone_ok (L := t) (a := 0) ⟨by omega, by omega, by omega⟩ (ByteArray.mk #[97])
    have hz := hm.tab (ByteArray.mk #[97])
    have hr := hm.r4 (ByteArray.mk #[97])
    have h20 := occ_len hm
    obtain ⟨w, a2, e2, hw, hwl, d2⟩ := Windows_ok d1
    obtain ⟨x, a3, e3, x0, x1, _⟩ := Instant_ok d2
    obtain ⟨out, e4, s1, s2, s3, s4⟩ := TimesOf_ok hz.2 h20 hw (by omega) (M := 1) (by omega) (a := x) (b := x + 604800) (by omega) (by omega) (by omega) (by omega)
    have hol : out.length ≤ 3 * 2 * 21 := Nat.le_trans s3 (Nat.mul_le_mul (Nat.mul_le_mul hwl (Nat.le_refl _)) (by omega))
    have e5 := Times_ok hz hw (by omega) (a := x) (b := x + 604800) (by omega) (by omega) (by omega) (by omega) e4 (by omega)
    have hbd : ∀ u ∈ out, u.2 ≤ 8589934592 := fun u hu => by have := (s2 u hu).2; omega
    obtain ⟨k0, k0l, k01, k02⟩ := ex_piece hz.2 (t := x) (by omega) (by omega)
    obtain ⟨k1, k1l, k11, k12⟩ := ex_piece hz.2 (t := x + 604800) (by omega) (by omega)
    have g1 := r4Off_ok hr (t := x) (by omega) (by omega) k0l k01 k02
    have g2 := r4Off_ok hr (t := x + 604800) (by omega) (by omega) k1l k11 k12
    have q0 := hz.2.of0 k0 k0l; have q1 := hz.2.of1 k0 k0l
    have q2 := hz.2.of0 k1 k1l; have q3 := hz.2.of1 k1 k1l
    dsimp only at q0 q1 q2 q3
    have hsw := sumL_range hw
    have key : ∀ e, _ → _ → _ := fun e c1 c2 => out_cnt hz.2 hw (by omega) (by omega) s1 s2 s4 k0l k1l k01 k02 k11 k12 (e := e) c1 c2
    dsimp only at key
    have hsum : 0 ≤ sumL out := sumL_pos s1.ino
    have hbig := key 200000 (by omega) (by omega)
    have hlen := Length3_ok s1 (by omega) (by omega) hbd (by omega)
    simp only [e1, e2, e3, Option.bind_some]
    rw [w64_in (x := x + 604800) (by omega) (by omega)]
    simp only [e5, g1, g2, Option.bind_some, bne_self_eq_false, cond_false]
    generalize tof o (outT o (isort (occs rs))) k0 = u0 at *
    generalize tof o (outT o (isort (occs rs))) k1 = u1 at *
    rw [w64_in (x := u1 - u0) (by omega) (by omega)]
    by_cases hc : u1 - u0 < 0
    · rw [dec_true hc, cond_true, w64_in (x := 0 - (u1 - u0)) (by omega) (by omega)]
      have hk := key (0 - (u1 - u0)) (by omega) (by omega)
      simp only [hlen, Length_ok hw (show w.length ≤ 14 by omega), Option.bind_some]
      rw [w64_in (x := sumL out - sumL w) (by omega) (by omega), w64_in (x := 0 - (sumL out - sumL w)) (by omega) (by omega), dec_true (show sumL out - sumL w ≤ 0 - (u1 - u0) by omega), dec_true (show 0 - (sumL out - sumL w) ≤ 0 - (u1 - u0) by omega)]
      simp only [cond_true, sane05, Option.bind_some]
    · rw [dec_false hc, cond_false]
      have hk := key (u1 - u0) (by omega) (by omega)
      simp only [hlen, Length_ok hw (show w.length ≤ 14 by omega), Option.bind_some]
      rw [w64_in (x := sumL out - sumL w) (by omega) (by omega), w64_in (x := 0 - (sumL out - sumL w)) (by omega) (by omega), dec_true (show sumL out - sumL w ≤ u1 - u0 by omega), dec_true (show 0 - (sumL out - sumL w) ≤ u1 - u0 by omega)]
      simp only [cond_true, sane05, Option.bind_some]
  · rw [dec_false hl]
    simp only [Bool.not_false, cond_true, sane05, Option.bind_some]
end Go.Proofs.Pw
