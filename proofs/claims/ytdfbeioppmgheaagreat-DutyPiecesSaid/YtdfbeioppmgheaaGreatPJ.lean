/- Counting instants: how long spans are, and how long the windows of a stretch of local time are. -/
import Derived.Test.YtdfbeioppmgheaaGreatPI
import Derived.Test.YtdfbeioppmgheaaGreatPC
import Derived.Test.YtdfbeioppmgheaaGreatLD
set_option linter.unusedSectionVars false
open Go Go.Lft
namespace Go.Proofs.Pw
def cntB (f : Int → Bool) (a : Int) : Nat → Int
 | 0 => 0
 | n + 1 => cntB f a n + (cond (f (a + n)) 1 0)
theorem cnt_add (f : Int → Bool) (a : Int) (n : Nat) : ∀ m : Nat, cntB f a (n + m) = cntB f a n + cntB f (a + n) m
 | 0 => by simp [cntB]
 | m + 1 => by
   have := cnt_add f a n m
   rw [show n + (m + 1) = (n + m) + 1 by omega]
   simp only [cntB]
   rw [this, show a + ((n + m : Nat) : Int) = a + (n : Int) + (m : Int) by omega]
   omega
theorem cnt_congr {f g : Int → Bool} {a : Int} : ∀ {n : Nat}, (∀ x, a ≤ x → x < a + n → f x = g x) → cntB f a n = cntB g a n
 | 0, _ => rfl
 | n + 1, h => by
   simp only [cntB]
   rw [cnt_congr (n := n) (fun x h1 h2 => h x h1 (by omega)), h (a + n) (by omega) (by omega)]
theorem cnt_zero {f : Int → Bool} {a : Int} : ∀ {n : Nat}, (∀ x, a ≤ x → x < a + n → f x = false) → cntB f a n = 0
 | 0, _ => rfl
 | n + 1, h => by
   simp only [cntB]
   rw [cnt_zero (n := n) (fun x h1 h2 => h x h1 (by omega)), h (a + n) (by omega) (by omega)]; rfl
theorem cnt_one {f : Int → Bool} {a : Int} : ∀ {n : Nat}, (∀ x, a ≤ x → x < a + n → f x = true) → cntB f a n = n
 | 0, _ => rfl
 | n + 1, h => by
   simp only [cntB]
   rw [cnt_one (n := n) (fun x h1 h2 => h x h1 (by omega)), h (a + n) (by omega) (by omega)]
   simp only [cond_true]; omega
def InO (p : Int) : SL → Prop
 | [] => True
 | x :: r => p ≤ x.1 ∧ x.1 < x.2 ∧ InO x.2 r
theorem InO.weak {p q : Int} (hq : q ≤ p) : ∀ {l : SL}, InO p l → InO q l
 | [], _ => trivial
 | _ :: _, h => ⟨by have := h.1; omega, h.2⟩
theorem StS.ino : ∀ {l : SL} {p : Int}, StS p l → InO (p + 1) l
 | [], _, _ => trivial
 | x :: r, p, h => ⟨by have := h.1; omega, h.2.1, (StS.ino h.2.2).weak (by omega)⟩
theorem ino_low : ∀ {l : SL} {p s : Int}, InO p l → s < p → hasB s l = false
 | [], _, _, _, _ => rfl
 | x :: r, p, s, h, hs => by
   obtain ⟨h1, h2, h3⟩ := h
   simp only [hasB]
   rw [dec_false (show ¬ x.1 ≤ s by omega), ino_low h3 (by omega)]
   rfl
theorem sum_cnt : ∀ {l : SL} {p : Int} {N : Nat}, InO p l → (∀ u ∈ l, u.2 ≤ p + N) → sumL l = cntB (fun s => hasB s l) p N
 | [], p, N, _, _ => (cnt_zero (f := fun s => hasB s []) (fun _ _ _ => rfl)).symm
 | x :: r, p, N, h, hb => by
   obtain ⟨h1, h2, h3⟩ := h
   have hx := hb x (by simp)
   obtain ⟨n1, e1⟩ : ∃ n1 : Nat, x.1 = p + n1 := ⟨(x.1 - p).toNat, by omega⟩
   obtain ⟨n2, e2⟩ : ∃ n2 : Nat, x.2 = x.1 + n2 := ⟨(x.2 - x.1).toNat, by omega⟩
   obtain ⟨n3, e3⟩ : ∃ n3 : Nat, N = n1 + n2 + n3 := ⟨N - n1 - n2, by omega⟩
   have ih := sum_cnt (l := r) (p := x.2) (N := n3) h3 (fun u hu => by have := hb u (by simp [hu]); omega)
   subst e3
   rw [cnt_add, cnt_add]
   rw [cnt_zero (a := p) (n := n1) (fun s s1 s2 => by
     simp only [hasB]; rw [dec_false (show ¬ x.1 ≤ s by omega), ino_low h3 (by omega)]; rfl)]
   rw [cnt_one (a := p + (n1 : Int)) (n := n2) (fun s s1 s2 => by
     simp only [hasB]; rw [dec_true (show x.1 ≤ s by omega), dec_true (show s < x.2 by omega)]; rfl)]
   rw [cnt_congr (a := p + ((n1 + n2 : Nat) : Int)) (g := fun s => hasB s r) (fun s s1 s2 => by
     simp only [hasB]; rw [dec_false (show ¬ s < x.2 by omega)]; cases decide (x.1 ≤ s) <;> rfl)]
   rw [show p + ((n1 + n2 : Nat) : Int) = x.2 by omega, ← ih]
   simp only [sumL]
   omega
theorem sumL_pos : ∀ {l : SL} {p : Int}, InO p l → 0 ≤ sumL l
 | [], _, _ => Int.le_refl _
 | x :: r, p, h => by
   have := sumL_pos h.2.2
   have := h.2.1
   simp only [sumL]; omega
theorem ino_drop : ∀ {l : SL} {p : Int}, InO p l → ∀ i, ∃ q, InO q (l.drop i)
 | [], p, _, i => ⟨p, by simp [InO]⟩
 | x :: r, p, h, 0 => ⟨p, h⟩
 | x :: r, p, h, i + 1 => ino_drop h.2.2 i
theorem L3_lp {l : SL} {p : Int} (h : StS p l) (hp : -1 ≤ p) (hl : l.length ≤ 4096) (hb : ∀ u ∈ l, u.2 ≤ 8589934592) : ∀ (n i : Nat) (s : Int), i + n = l.length → 0 ≤ s → s + sumL (l.drop i) ≤ 1000000000000 →
   r03_Length_l0 l s (i : Int) = some (s + sumL (l.drop i))
 | 0, i, s, hi, _, _ => by
   rw [r03_Length_l0_eq]
   simp only [r03_Length_l0_step, show Int.ofNat (List.length l) = (l.length : Int) from rfl]
   rw [dec_false (by omega), cond_false, lpK_inr, List.drop_of_length_le (by omega)]
   simp [sumL]
 | n + 1, i, s, hi, hs, hs2 => by
   have hlt : i < l.length := by omega
   have hgd : l.getD i ((0 : Int), (0 : Int)) = l[i] := by simp [hlt]
   have hg := sts_get h i hlt
   have hu := get_bd h hp hl hb i hlt
   rw [hgd] at hg hu
   obtain ⟨q, hq⟩ := ino_drop h.ino (i + 1)
   have hpos := sumL_pos hq
   rw [List.drop_eq_getElem_cons hlt] at hs2 ⊢
   simp only [sumL] at hs2 ⊢
   rw [r03_Length_l0_eq]
   simp only [r03_Length_l0_step, show Int.ofNat (List.length l) = (l.length : Int) from rfl, Valid3_ok h hp hl hb]
   rw [dec_true (show (i : Int) < (l.length : Int) by omega), inR_t (by omega) (by omega)]
   simp only [cond_true, Option.bind_some, Int.toNat_natCast, hgd]
   rw [w64_in (x := (i : Int) + 1) (by omega) (by omega), w64_in (x := l[i].2 - l[i].1) (by omega) (by omega), w64_in (x := s + (l[i].2 - l[i].1)) (by omega) (by omega), lpK_inl]
   have := L3_lp h hp hl hb n (i + 1) (s + (l[i].2 - l[i].1)) (by omega) (by omega) (by omega)
   rw [show s + (l[i].2 - l[i].1 + sumL (l.drop (i + 1))) = s + (l[i].2 - l[i].1) + sumL (l.drop (i + 1)) by omega]
   exact this
theorem Length3_ok {l : SL} {p : Int} (h : StS p l) (hp : -1 ≤ p) (hl : l.length ≤ 4096) (hb : ∀ u ∈ l, u.2 ≤ 8589934592) (hs : sumL l ≤ 1000000000000) : r03_Length l = some (sumL l) := by
 have := L3_lp h hp hl hb l.length 0 0 (by omega) (by omega) (by rw [List.drop_zero]; omega)
 rw [show ((0 : Nat) : Int) = 0 from rfl, List.drop_zero, Int.zero_add] at this
 simp only [r03_Length, this, Option.bind_some]
end Go.Proofs.Pw
open Go Go.Lft
namespace Go.Proofs.Pw
def psum : SgL → Int
 | [] => 0
 | s :: r => (if 0 ≤ s.2.2 then s.2.1 - s.1 else 0) + psum r
theorem psum_rng {f : Int → Int} {b : Int} : ∀ {l : SgL} {a : Int}, Ch f b a l → 0 ≤ psum l ∧ psum l ≤ b - a
 | [], a, h => by have h : _ = _ := h; simp only [psum]; omega
 | s :: r, a, h => by
   have := psum_rng h.2.2.2
   have := h.1; have := h.2.1
   simp only [psum]; split <;> omega
theorem psum_cnt {f : Int → Int} {b : Int} : ∀ {l : SgL} {a : Int}, Ch f b a l → psum l = cntB (fun t => decide (0 ≤ f t)) a (b - a).toNat
 | [], a, h => by have h : _ = _ := h; subst h; simp [psum, cntB]
 | s :: r, a, h => by
   obtain ⟨h1, h2, h3, h4⟩ := h
   have ih := psum_cnt h4
   have hle := h4.le
   have e : (b - a).toNat = (s.2.1 - a).toNat + (b - s.2.1).toNat := by omega
   rw [e, cnt_add, show a + (((s.2.1 - a).toNat : Nat) : Int) = s.2.1 by omega, ← ih]
   simp only [psum]
   by_cases hp : 0 ≤ s.2.2
   · rw [if_pos hp, cnt_one (f := fun t => decide (0 ≤ f t)) (fun t t1 t2 => by rw [h3 t t1 (by omega)]; exact dec_true hp)]
     omega
   · rw [if_neg hp, cnt_zero (f := fun t => decide (0 ≤ f t)) (fun t t1 t2 => by rw [h3 t t1 (by omega)]; exact dec_false hp)]
section
variable {zs : List ZoneT} {ps : List PersonT} {cs : List CalT} (hs : SOk2 zs ps cs)
 {ss : List SchedT} (g0 : ss.length ≤ 12) (g1 : NmL (ss.map (·.1))) (g2 : ∀ s ∈ ss, SCk zs.length ps.length cs.length s)
 {L : LayerT} (hL : LCk zs.length ps.length cs.length L) (hn : lexer_Name L.1 = some true)
include hs g0 g1 g2 hL hn
theorem dp2_lp {A : SL} {S : SgL} {n sm m j f t p : Int} {xs : List Int} (hx : xs.length = 3) (hxs : ∀ y ∈ xs, 0 ≤ y ∧ y ≤ 8589934592 ∧ perX zs cs L y = p ∧ r03_Has A y = some (decide (0 ≤ p))) : ∀ (d i : Nat), i + d = 3 →
   law11_DutyPieces_l2 n sm m j xs (i : Int) zs ps cs ss L.1 L.2.1 L.2.2.1.1 L.2.2.1.2 L.2.2.2.1 L.2.2.2.2.1 L.2.2.2.2.2.1 L.2.2.2.2.2.2.1 L.2.2.2.2.2.2.2.1 L.2.2.2.2.2.2.2.2 f t p S A =
     some (.inr (n, sm, m, j, zs, ps, cs, ss, L.1, L.2.1, L.2.2.1.1, L.2.2.1.2, L.2.2.2.1, L.2.2.2.2.1, L.2.2.2.2.2.1, L.2.2.2.2.2.2.1, L.2.2.2.2.2.2.2.1, L.2.2.2.2.2.2.2.2, f, t, p, S, A))
 | 0, i, hi => by
   rw [law11_DutyPieces_l2_eq]
   simp only [law11_DutyPieces_l2_step]
   rw [dec_false (by omega), cond_false, lpK_inr]
 | d + 1, i, hi => by
   have hi' : i < xs.length := by omega
   have hgd : xs.getD i (0 : Int) = xs[i] := by simp [hi']
   obtain ⟨h1, h2, h3, h4⟩ := hxs _ (List.getElem_mem hi')
   obtain ⟨p1, p2⟩ := DPer_ok hs g0 g1 g2 hL hn h1 h2
   have hr := (per_rng hs hL h1 h2).1
   have ho : onX zs cs L xs[i] = decide (0 ≤ p) := by
     rw [h3] at hr
     by_cases hp : 0 ≤ p
     · rw [dec_true hp]; exact hr.2 hp
     · rw [dec_false hp]
       cases hc : onX zs cs L xs[i] with
       | false => rfl
       | true => exact absurd (hr.1 hc) hp
   rw [law11_DutyPieces_l2_eq]
   simp only [law11_DutyPieces_l2_step]
   rw [dec_true (by omega), inR_t (by omega) (by omega)]
   simp only [cond_true, Int.toNat_natCast, hgd]
   rw [show duty_Person (zs, ps, cs, ss) (L.1, L.2.1, (L.2.2.1.1, L.2.2.1.2), L.2.2.2.1, L.2.2.2.2.1, L.2.2.2.2.2.1, L.2.2.2.2.2.2.1, L.2.2.2.2.2.2.2.1, L.2.2.2.2.2.2.2.2) xs[i] = _ from p1,
     show duty_On (zs, ps, cs, ss) (L.1, L.2.1, (L.2.2.1.1, L.2.2.1.2), L.2.2.2.1, L.2.2.2.2.1, L.2.2.2.2.2.1, L.2.2.2.2.2.2.1, L.2.2.2.2.2.2.2.1, L.2.2.2.2.2.2.2.2) xs[i] = _ from p2]
   simp only [Option.bind_some, h3, h4, ho, bne_self_eq_false, cond_false]
   rw [show decide (p ≥ 0) = decide (0 ≤ p) from rfl]
   simp only [beq_self_eq_true, Bool.not_true, cond_false]
   rw [w64_in (x := (i : Int) + 1) (by omega) (by omega), lpK_inl]
   exact dp2_lp hx hxs d (i + 1) (by omega)
theorem dp0_lp {A : SL} {S : SgL} {n a b : Int} (ha : 0 ≤ a) (hb : b ≤ 8589934592) (hS : Ch (perX zs cs L) b a S) (hpos : ∀ s ∈ S, s.1 < s.2.1) (hadj : ∀ i, (h : i + 1 < S.length) → S[i].2.1 = S[i + 1].1 ∧ S[i].2.2 ≠ S[i + 1].2.2) (hSl : S.length ≤ 100000)
   (hA : ∀ y, a ≤ y → y < b → r03_Has A y = some (decide (0 ≤ perX zs cs L y))) : ∀ (d j : Nat) (sm : Int), j + d = S.length → 0 ≤ sm → sm + psum (S.drop j) ≤ 10000000000 → (∀ k, 0 ≤ psum (S.drop k)) →
   law11_DutyPieces_l0 n sm (S.length : Int) (j : Int) zs ps cs ss L.1 L.2.1 L.2.2.1.1 L.2.2.1.2 L.2.2.2.1 L.2.2.2.2.1 L.2.2.2.2.2.1 L.2.2.2.2.2.2.1 L.2.2.2.2.2.2.2.1 L.2.2.2.2.2.2.2.2 S A = some (.inr (sm + psum (S.drop j), A))
 | 0, j, sm, hj, _, _, _ => by
   rw [law11_DutyPieces_l0_eq]
   simp only [law11_DutyPieces_l0_step]
   rw [dec_false (by omega), cond_false, lpK_inr, List.drop_of_length_le (by omega)]
   simp [psum]
 | d + 1, j, sm, hj, hsm, hsm2, hps => by
   have hj' : j < S.length := by omega
   have hgd : S.getD j ((0 : Int), ((0 : Int), (0 : Int))) = S[j] := by simp [List.getD, hj']
   have hm := hS.mem _ (List.getElem_mem hj')
   have hp := hpos _ (List.getElem_mem hj')
   have hk := hps (j + 1)
   have hdp : psum (S.drop j) = (if 0 ≤ S[j].2.2 then S[j].2.1 - S[j].1 else 0) + psum (S.drop (j + 1)) := by rw [List.drop_eq_getElem_cons hj']; rfl
   have hmod : made_Mod n (S[j].2.1 - S[j].1) = some (n % (S[j].2.1 - S[j].1)) := Mod_eq _ _ (by omega) (by omega)
   have hm0 : 0 ≤ n % (S[j].2.1 - S[j].1) := Int.emod_nonneg _ (by omega)
   have hm1 : n % (S[j].2.1 - S[j].1) < S[j].2.1 - S[j].1 := Int.emod_lt_of_pos _ (by omega)
   have h2 := dp2_lp hs g0 g1 g2 hL hn (A := A) (S := S) (n := n) (sm := sm) (m := (S.length : Int)) (j := (j : Int)) (f := S[j].1) (t := S[j].2.1) (p := S[j].2.2) (xs := [S[j].1, S[j].1 + n % (S[j].2.1 - S[j].1), S[j].2.1 - 1]) rfl (fun y hy => by
     have hy' : S[j].1 ≤ y ∧ y < S[j].2.1 := by
       simp only [List.mem_cons, List.not_mem_nil, or_false] at hy
       omega
     have hpy := hm.2.2.2 y hy'.1 hy'.2
     have := hA y (by omega) (by omega)
     rw [hpy] at this
     exact ⟨by omega, by omega, hpy, this⟩) 3 0 (by omega)
   have rest : (cond (decide (S[j].2.2 ≥ 0)) (law11_DutyPieces_l0 n (w64 (sm + w64 (S[j].2.1 - S[j].1))) (S.length : Int) (w64 ((j : Int) + 1)) zs ps cs ss L.1 L.2.1 L.2.2.1.1 L.2.2.1.2 L.2.2.2.1 L.2.2.2.2.1 L.2.2.2.2.2.1 L.2.2.2.2.2.2.1 L.2.2.2.2.2.2.2.1 L.2.2.2.2.2.2.2.2 S A)
       (law11_DutyPieces_l0 n sm (S.length : Int) (w64 ((j : Int) + 1)) zs ps cs ss L.1 L.2.1 L.2.2.1.1 L.2.2.1.2 L.2.2.2.1 L.2.2.2.2.1 L.2.2.2.2.2.1 L.2.2.2.2.2.2.1 L.2.2.2.2.2.2.2.1 L.2.2.2.2.2.2.2.2 S A)) = some (.inr (sm + psum (S.drop j), A)) := by
     rw [w64_in (x := (j : Int) + 1) (by omega) (by omega), hdp]
     rw [hdp] at hsm2
     by_cases h0 : 0 ≤ S[j].2.2
     · rw [dec_true (show S[j].2.2 ≥ 0 from h0), cond_true, if_pos h0]
       rw [if_pos h0] at hsm2
       rw [w64_in (x := S[j].2.1 - S[j].1) (by omega) (by omega), w64_in (x := sm + (S[j].2.1 - S[j].1)) (by omega) (by omega)]
       have := dp0_lp (n := n) ha hb hS hpos hadj hSl hA d (j + 1) (sm + (S[j].2.1 - S[j].1)) (by omega) (by omega) (by omega) hps
       rw [← Int.add_assoc]
       exact this
     · rw [dec_false (show ¬ S[j].2.2 ≥ 0 from h0), cond_false, if_neg h0]
       rw [if_neg h0] at hsm2
       have := dp0_lp (n := n) ha hb hS hpos hadj hSl hA d (j + 1) sm (by omega) (by omega) (by omega) hps
       rw [Int.zero_add]
       exact this
   rw [law11_DutyPieces_l0_eq]
   simp only [law11_DutyPieces_l0_step]
   rw [dec_true (show (j : Int) < (S.length : Int) by omega), inR_t (by omega) (by omega)]
   simp only [cond_true, Int.toNat_natCast, hgd]
   rw [dec_false (show ¬ S[j].1 ≥ S[j].2.1 by omega), cond_false, w64_in (x := S[j].2.1 - S[j].1) (by omega) (by omega), hmod]
   simp only [Option.bind_some]
   rw [w64_in (x := S[j].1 + n % (S[j].2.1 - S[j].1)) (by omega) (by omega), w64_in (x := S[j].2.1 - 1) (by omega) (by omega)]
   have lpc : ∀ (c : Bool) {X Y : Type} (k : X → Option Y) (u v : Option (X ⊕ Y)), lpK (cond c u v) k = cond c (lpK u k) (lpK v k) := fun c _ _ k u v => by cases c <;> rfl
   rw [w64_in (x := S[j].2.1 - S[j].1) (by omega) (by omega)] at rest
   by_cases hj0 : (j : Int) > 0
   · obtain ⟨i, rfl⟩ : ∃ i, j = i + 1 := ⟨j - 1, by omega⟩
     have hai := hadj i hj'
     have hgi : S.getD i ((0 : Int), ((0 : Int), (0 : Int))) = S[i] := by simp [List.getD, show i < S.length by omega]
     rw [dec_true hj0, cond_true, w64_in (x := ((i + 1 : Nat) : Int) - 1) (by omega) (by omega), show ((i + 1 : Nat) : Int) - 1 = (i : Int) by omega, inR_t (show (0 : Int) ≤ (i : Int) by omega) (by omega)]
     simp only [cond_true, Int.toNat_natCast, hgi]
     rw [hai.1, bne_self_eq_false, cond_false, beq_f (fun h => hai.2 h.symm), cond_false]
     rw [show law11_DutyPieces_l2 n sm (S.length : Int) ((i + 1 : Nat) : Int) [S[i + 1].1, S[i + 1].1 + n % (S[i + 1].2.1 - S[i + 1].1), S[i + 1].2.1 - 1] 0 zs ps cs ss L.1 L.2.1 L.2.2.1.1 L.2.2.1.2 L.2.2.2.1 L.2.2.2.2.1 L.2.2.2.2.2.1 L.2.2.2.2.2.2.1 L.2.2.2.2.2.2.2.1 L.2.2.2.2.2.2.2.2 S[i + 1].1 S[i + 1].2.1 S[i + 1].2.2 S A = _ from h2]
     simp only [Option.bind_some, sumC_inr]
     rw [lpc, w64_in (x := S[i + 1].2.1 - S[i + 1].1) (by omega) (by omega)]
     exact rest
   · rw [dec_false hj0, cond_false]
     rw [show law11_DutyPieces_l2 n sm (S.length : Int) (j : Int) [S[j].1, S[j].1 + n % (S[j].2.1 - S[j].1), S[j].2.1 - 1] 0 zs ps cs ss L.1 L.2.1 L.2.2.1.1 L.2.2.1.2 L.2.2.2.1 L.2.2.2.2.1 L.2.2.2.2.2.1 L.2.2.2.2.2.2.1 L.2.2.2.2.2.2.2.1 L.2.2.2.2.2.2.2.2 S[j].1 S[j].2.1 S[j].2.2 S A = _ from h2]
     simp only [Option.bind_some, sumC_inr]
     rw [lpc, w64_in (x := S[j].2.1 - S[j].1) (by omega) (by omega)]
     exact rest
end
theorem Cov.adj {f : Int → Int} {b : Int} : ∀ {l : SgL} {q : Option Int} {a : Int}, Cov f b q a l → ∀ i, (h : i + 1 < l.length) → l[i].2.1 = l[i + 1].1 ∧ l[i].2.2 ≠ l[i + 1].2.2
 | [], _, _, _, i, h => by simp at h
 | [_], _, _, _, i, h => by simp at h
 | s :: u :: r, q, a, h, 0, _ => by
   obtain ⟨_, _, _, _, h5⟩ := h
   exact ⟨h5.1.symm, fun e => h5.2.2.1 (by show some s.2.2 = some u.2.2; rw [show s.2.2 = u.2.2 from e])⟩
 | s :: u :: r, q, a, h, i + 1, hi => Cov.adj h.2.2.2.2 i (by simpa using hi)
theorem Ch.last {f : Int → Int} {b : Int} : ∀ {l : SgL} {a : Int}, Ch f b a l → (h : l ≠ []) → (l.getD (l.length - 1) ((0 : Int), ((0 : Int), (0 : Int)))).2.1 = b
 | [], _, _, h => absurd rfl h
 | [s], _, h, _ => h.2.2.2
 | s :: u :: r, _, h, _ => by
   have := Ch.last (l := u :: r) h.2.2.2 (by simp)
   simpa [List.getD] using this
theorem Cov.head {f : Int → Int} {b a : Int} {q : Option Int} {l : SgL} (h : Cov f b q a l) (hn : l ≠ []) : (l.getD 0 ((0 : Int), ((0 : Int), (0 : Int)))).1 = a := by
 cases l with
 | nil => exact absurd rfl hn
 | cons s r => exact h.1
theorem psum_drop {f : Int → Int} {b : Int} : ∀ {l : SgL} {a : Int} (k : Nat), Ch f b a l → 0 ≤ psum (l.drop k)
 | _, _, 0, h => (psum_rng h).1
 | [], _, _ + 1, _ => Int.le_refl _
 | _ :: _, _, k + 1, h => psum_drop k h.2.2.2
theorem DutyPieces_true (t : List Int) (_h : Wf (.list (.int .i64)) t) (n : Int) (_h2 : Wf (.int .i64) n) : law11_DutyPieces t n = some true := by
 simp only [law11_DutyPieces, made_Light, Option.bind_some, show Int.ofNat (List.length t) = (t.length : Int) from rfl]
 by_cases hl : (t.length : Int) ≤ 500
 · rw [dec_true hl]
   simp only [Bool.not_true, cond_false, made_Roll, Option.bind_some]
   obtain ⟨zs, ps, cs, ss, a1, e1, hs, g0, g1, g2, d1⟩ := Config1_ok (L := t) (a := 0) ⟨by omega, by omega, by omega⟩
   obtain ⟨L, a2, e2, _, hLC, hnm, d2⟩ := Layer2_ok (ss := ss) d1 hs.so (ByteArray.mk #[97])
   obtain ⟨x, a3, e3, x0, x1, d3⟩ := Instant_ok d2
   have hn : lexer_Name L.1 = some true := by rw [hnm]; exact nm_a
   simp only [e1, e2, e3, Option.bind_some]
   rw [w64_in (x := x + 864000) (by omega) (by omega)]
   obtain ⟨S, eS, cS, lS⟩ := DSegs_ok hs (by omega) g1 g2 hLC hn (a := x) (b := x + 864000) (by omega) (by omega) (by omega) (by omega)
   obtain ⟨A, eA, A1, A2, A3⟩ := DTimes_ok hs (by omega) g1 g2 hLC hn (a := x) (b := x + 864000) (by omega) (by omega) (by omega) (by omega)
   have hne : S ≠ [] := cS.ne (by omega)
   have hSl : 0 < S.length := List.length_pos_iff.2 hne
   have hbd : ∀ u ∈ A, u.2 ≤ x + 864000 := fun u hu => by
     have h1 := StS.mem A1 u hu
     have := (A2 (u.2 - 1)).1 ⟨u, hu, by omega, by omega⟩
     omega
   have hhas : ∀ y, x ≤ y → y < x + 864000 → r03_Has A y = some (decide (0 ≤ perX zs cs L y)) := fun y y1 y2 => by
     obtain ⟨v, ev, hv⟩ := Has3_ok A1 (by omega) A3 (fun u hu => by have := hbd u hu; omega) y
     rw [ev]
     have hr := (per_rng hs hLC (t := y) (by omega) (by omega)).1
     congr 1
     rw [A2 y] at hv
     by_cases hp : 0 ≤ perX zs cs L y
     · rw [dec_true hp]; exact hv.2 ⟨y1, y2, hr.2 hp⟩
     · rw [dec_false hp]
       cases v with
       | false => rfl
       | true => exact absurd (hr.1 (hv.1 rfl).2.2) hp
   have hsum : psum S = sumL A := by
     rw [psum_cnt cS.ch, sum_cnt (N := 864000) A1.ino (fun u hu => by have := hbd u hu; omega), show x - 1 + 1 = x by omega, show (x + 864000 - x).toNat = 864000 by omega]
     refine cnt_congr fun y y1 y2 => ?_
     have hr := (per_rng hs hLC (t := y) (by omega) (by omega)).1
     have hi : hasB y A = true ↔ inS y A := has_iff
     rw [A2 y] at hi
     by_cases hp : 0 ≤ perX zs cs L y
     · rw [dec_true hp]; exact (hi.2 ⟨y1, by omega, hr.2 hp⟩).symm
     · rw [dec_false hp]
       cases hc : hasB y A with
       | false => rfl
       | true => exact absurd (hr.1 (hi.1 hc).2.2) hp
   have hpr := psum_rng cS.ch
   have hlen := Length3_ok A1 (by omega) A3 (fun u hu => by have := hbd u hu; omega) (by omega)
   have lp := dp0_lp hs (by omega) g1 g2 hLC hn (A := A) (S := S) (n := n) (a := x) (b := x + 864000) (by omega) (by omega) cS.ch cS.pos cS.adj (by omega) hhas S.length 0 0 (by omega) (by omega) (by rw [List.drop_zero]; omega) (fun k => psum_drop k cS.ch)
   rw [List.drop_zero, Int.zero_add] at lp
   rw [show duty_Segments (zs, ps, cs, ss) (L.1, L.2.1, (L.2.2.1.1, L.2.2.1.2), L.2.2.2.1, L.2.2.2.2.1, L.2.2.2.2.2.1, L.2.2.2.2.2.2.1, L.2.2.2.2.2.2.2.1, L.2.2.2.2.2.2.2.2) x (x + 864000) = _ from eS,
     show duty_Times (zs, ps, cs, ss) (L.1, L.2.1, (L.2.2.1.1, L.2.2.1.2), L.2.2.2.1, L.2.2.2.2.1, L.2.2.2.2.2.1, L.2.2.2.2.2.2.1, L.2.2.2.2.2.2.2.1, L.2.2.2.2.2.2.2.2) x (x + 864000) = _ from eA]
   simp only [Option.bind_some, bne_self_eq_false, cond_false, show Int.ofNat S.length = (S.length : Int) from rfl]
   rw [beq_f (show ¬ (S.length : Int) = 0 by omega), inR_t (show (0 : Int) ≤ 0 by omega) (by omega), w64_in (x := (S.length : Int) - 1) (by omega) (by omega), inR_t (show (0 : Int) ≤ (S.length : Int) - 1 by omega) (by omega), show ((S.length : Int) - 1).toNat = S.length - 1 by omega]
   simp only [Bool.true_or, cond_true, cond_false, cS.head hne, cS.ch.last hne, bne_self_eq_false]
   rw [show law11_DutyPieces_l0 n 0 (S.length : Int) 0 zs ps cs ss L.1 L.2.1 L.2.2.1.1 L.2.2.1.2 L.2.2.2.1 L.2.2.2.2.1 L.2.2.2.2.2.1 L.2.2.2.2.2.2.1 L.2.2.2.2.2.2.2.1 L.2.2.2.2.2.2.2.2 S A = _ from lp]
   simp only [Option.bind_some, sumC_inr, hlen, hsum, beq_self_eq_true, cond_true, sane11]
 · rw [dec_false hl]
   simp only [Bool.not_false, cond_true, sane11, Option.bind_some]
end Go.Proofs.Pw
