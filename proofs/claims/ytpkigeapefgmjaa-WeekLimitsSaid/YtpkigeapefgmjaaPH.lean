/- Chapter 5: the law WeekLimits, on plain functions. -/
import Derived.Test.YtpkigeapefgmjaaPD
import Derived.Test.YtpkigeapefgmjaaPB
import Derived.Test.YtpkigeapefgmjaaLD
open Go Go.Lft
namespace Go.Proofs.Pw

def preW (i : Nat) : WL := (List.range i).map fun (j : Nat) => ((j : Int) * 40000, (j : Int) * 40000 + 40000)

theorem preW_s (i : Nat) : preW (i + 1) = preW i ++ [((i : Int) * 40000, (i : Int) * 40000 + 40000)] := by
  simp [preW, List.range_succ]
theorem preW_len (i : Nat) : (preW i).length = i := by simp [preW]
theorem preW_14 : preW 14 = [(0, 40000), (40000, 80000), (80000, 120000), (120000, 160000), (160000, 200000), (200000, 240000), (240000, 280000), (280000, 320000), (320000, 360000), (360000, 400000), (400000, 440000), (440000, 480000), (480000, 520000), (520000, 560000)] := by
  decide

theorem wl_lp (s : Int) : ∀ (n i : Nat), i + n = 14 → law05_WeekLimits_l0 s (i : Int) (preW i) = some (s, preW 14)
  | 0, i, hi => by
    rw [law05_WeekLimits_l0_eq]
    simp only [law05_WeekLimits_l0_step]
    rw [dec_false (by omega), cond_false, lpK_inr, show i = 14 by omega]
  | n + 1, i, hi => by
    have ih := wl_lp s n (i + 1) (by omega)
    have hp := preW_len i
    rw [law05_WeekLimits_l0_eq]
    simp only [law05_WeekLimits_l0_step]
    rw [dec_true (show (i : Int) < 14 by omega), w64_in (x := (i : Int) + 1) (by omega) (by omega), w64_in (x := (i : Int) * 40000) (by omega) (by omega), w64_in (x := (i : Int) * 40000 + 40000) (by omega) (by omega), dec_true (by simp [sizeMax]; omega)]
    simp only [cond_true, lpK_inl, ← preW_s]
    exact ih

theorem one_span {out : SL} {a b : Int} (hab : a < b) (h : StS (a - 1) out) (hb : ∀ u ∈ out, a ≤ u.1 ∧ u.2 ≤ b) (hx : ∀ x, a ≤ x → x < b → inS x out) : out = [(a, b)] := by
  cases out with
  | nil => exact absurd (hx a (by omega) hab) inS_nil
  | cons s r =>
    have hs := hb s (by simp)
    obtain ⟨h1, h2, h3⟩ := h
    have hlow : ∀ {r : SL} {p x : Int}, StS p r → x ≤ p → ¬ inS x r := by
      intro r
      induction r with
      | nil => intro p x _ _; exact inS_nil
      | cons u r ih =>
        intro p x hr hxp hi
        rcases inS_cons.1 hi with hi | hi
        · have := hr.1; omega
        · exact ih hr.2.2 (by have := hr.1; have := hr.2.1; omega) hi
    have e1 : s.1 = a := by
      rcases inS_cons.1 (hx a (by omega) hab) with hi | hi
      · omega
      · exact absurd hi (hlow h3 (by omega))
    have e2 : s.2 = b := by
      rcases Int.lt_or_le s.2 b with h' | h'
      · rcases inS_cons.1 (hx s.2 (by omega) h') with hi | hi
        · omega
        · exact absurd hi (hlow h3 (Int.le_refl _))
      · omega
    cases r with
    | nil => rw [← e1, ← e2]
    | cons u r =>
      have := hb u (by simp)
      have g1 := h3.1
      have g2 := h3.2.1
      omega

theorem WeekLimits_true (n : Int) (_h : Wf (.int .i64) n) : law05_WeekLimits n = some true := by
  have hw1 : WOk 0 [((0 : Int), (604800 : Int))] := by simp only [WOk]; decide
  have hw14 : WOk 0 (preW 14) := by rw [preW_14]; simp only [WOk]; decide
  have hlp := wl_lp n 14 0 rfl
  rw [show ((0 : Nat) : Int) = 0 from rfl, show preW 0 = [] from rfl] at hlp
  have hmod : made_Mod n 8589934592 = some (n % 8589934592) := Mod_eq n _ (by omega) (by omega)
  obtain ⟨a, ha⟩ : ∃ a, n % 8589934592 = a := ⟨_, rfl⟩
  have ha0 : 0 ≤ a := by omega
  have ha1 : a < 8589934592 := by omega
  obtain ⟨b, hb⟩ : ∃ b, (if (8589934592 : Int) < a + 34560000 then (8589934592 : Int) else a + 34560000) = b := ⟨_, rfl⟩
  have hb1 : a < b ∧ b ≤ 8589934592 ∧ b - a ≤ 34560000 := by rw [← hb]; split <;> omega
  have hm := mz0 (o := 0) (by omega) (by omega)
  have hz := hm.tab ByteArray.empty
  have h20 := occ_len hm
  obtain ⟨out, e4, s1, s2, s3, s4⟩ := TimesOf_ok hz.2 h20 hw1 (by simp) (M := 58) (by omega) (a := a) (b := b) ha0 (by omega) hb1.2.1 (by omega)
  have hall : ∀ s : Int, hasB (s % 604800) [((0 : Int), (604800 : Int))] = true := fun s => has_iff.2 ⟨_, List.mem_singleton.2 rfl, by dsimp only; omega, by dsimp only; omega⟩
  obtain rfl : out = [(a, b)] := one_span hb1.1 s1 s2 fun x x1 x2 => by
    obtain ⟨k, hk, k1, k2⟩ := ex_piece hz.2 (t := x) (by omega) (by omega)
    exact (s4 k hk x x1 x2 k1 k2).2 (hall _)
  have e5 := Times_ok hz hw1 (by simp) (a := a) (b := b) ha0 (by omega) hb1.2.1 hb1.2.2 e4 (by simp)
  obtain ⟨k, hk, k1, k2⟩ := ex_piece hz.2 (t := a) (by omega) (by omega)
  have hin := In_ok (Second_val hz (t := a) (by omega) (by omega) hk k1 k2) hw1 (by simp)
  rw [hall] at hin
  have hinv := Invert_ok hw1 (by simp)
  rw [show winv 0 [((0 : Int), (604800 : Int))] = [] from rfl] at hinv
  have c1 := Check_ok hw14 (by rw [preW_len]; decide)
  have c2 : week_Check (preW 14 ++ [((600000 : Int), (604800 : Int))]) = some 5 := by
    simp only [week_Check]
    rw [dec_true (by rw [preW_14]; decide), cond_true]
  have c3 : week_Check ((preW 14).set 5 (w64 (((preW 14).getD 5 ((0 : Int), (0 : Int))).1 - 1), ((preW 14).getD 5 ((0 : Int), (0 : Int))).2)) = some 6 := by
    rw [preW_14]
    exact week_Check_le 60 _ 6 (by kernel_rfl)
  have c4 := Length_ok hw14 (by rw [preW_len]; decide)
  have c5 : sumL (preW 14) = 560000 := by rw [preW_14]; rfl
  rw [c5] at c4
  simp only [law05_WeekLimits, hlp, Option.bind_some]
  rw [dec_true (show List.length ([] : List (Int × Int)) + List.length (preW 14) ≤ sizeMax by rw [preW_len]; decide)]
  simp only [cond_true, List.nil_append]
  rw [dec_true (show List.length (preW 14) + List.length [((600000 : Int), (604800 : Int))] ≤ sizeMax by rw [preW_len]; decide), preW_len, show inR 5 14 = true from rfl]
  simp only [cond_true, hmod, ha, Option.bind_some]
  rw [w64_in (x := a + 34560000) (by omega) (by omega), hb]
  simp only [e5, hinv, c1, c2, c3, c4, hin, Option.bind_some, beq_self_eq_true, cond_true, List.length_cons, List.length_nil, sane05]
  rw [show (([(a, b)] : List (Int × Int)).getD 0 ((0 : Int), (0 : Int))).1 = a from rfl, beq_self_eq_true]
  rfl
end Go.Proofs.Pw
