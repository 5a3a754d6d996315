/- Chapter 4: the transitions of a zone. -/
import Derived.Test.YtielflihgdebiaaPA
open Go Go.Lft
namespace Go.Proofs.Pw

abbrev Rule := Int × (Int × (Int × (Int × (Int × (Int × Int)))))

theorem in_t {n lo hi : Int} (h1 : lo ≤ n) (h2 : n ≤ hi) : zone_in n lo hi = some true := by
  simp only [zone_in]
  rw [dec_true (show n ≥ lo from h1), dec_true h2]; rfl
theorem in_f {n lo hi : Int} (h : ¬ (lo ≤ n ∧ n ≤ hi)) : zone_in n lo hi = some false := by
  simp only [zone_in]
  by_cases h1 : n ≥ lo
  · rw [dec_true h1, dec_false (fun h2 => h ⟨h1, h2⟩)]; rfl
  · rw [dec_false h1]; rfl

structure ROk (r : Rule) : Prop where
  y0 : 1970 ≤ r.1
  y1 : r.1 ≤ r.2.1
  y2 : r.2.1 ≤ 2240
  m0 : 1 ≤ r.2.2.1
  m1 : r.2.2.1 ≤ 12
  k0 : 1 ≤ r.2.2.2.1
  k1 : r.2.2.2.1 ≤ 5
  d0 : 0 ≤ r.2.2.2.2.1
  d1 : r.2.2.2.2.1 ≤ 6
  s0 : 0 ≤ r.2.2.2.2.2.1
  s1 : r.2.2.2.2.2.1 ≤ 86399
  o0 : -64800 ≤ r.2.2.2.2.2.2
  o1 : r.2.2.2.2.2.2 ≤ 64800

theorem rule_ok {r : Rule} (h : ROk r) : zone_rule r = some 0 := by
  simp only [zone_rule, in_t h.y0 (show r.1 ≤ 2240 by have := h.y1; have := h.y2; omega), in_t h.y1 h.y2, in_t h.m0 h.m1, in_t h.k0 h.k1, in_t h.d0 h.d1, in_t h.s0 h.s1, in_t h.o0 h.o1, Option.bind_some, Bool.not_true, cond_false]

theorem nth_range {y m k w : Int} (_h1 : 1970 ≤ y) (_h2 : y ≤ 2240) (hm1 : 1 ≤ m) (hm2 : m ≤ 12) (hk1 : 1 ≤ k) (hk2 : k ≤ 5) : num y m 1 ≤ nth y m k w ∧ nth y m k w < num y m 1 + dim y m ∨ nth y m k w < num y m 1 + 35 ∧ num y m 1 ≤ nth y m k w := by
  right
  have hd := dim_pos y m hm1 hm2
  unfold nth
  dsimp only
  split <;> omega

/-- Where a rule's occurrence lies in its year, on the clock. -/
def occ (r : Rule) (y : Int) : Int × Int := (nth y r.2.2.1 r.2.2.2.1 r.2.2.2.2.1 * 86400 + r.2.2.2.2.2.1, r.2.2.2.2.2.2)
def occR (r : Rule) : TrL := (List.range (r.2.1 - r.1 + 1).toNat).map fun (i : Nat) => occ r (r.1 + (i : Int))
def occs (l : List Rule) : TrL := l.flatMap occR

theorem occ_range {r : Rule} (h : ROk r) {y : Int} (h1 : 1970 ≤ y) (h2 : y ≤ 2240) : 0 ≤ (occ r y).1 ∧ (occ r y).1 ≤ 10000000000 := by
  have hv := num_range (dim_valid1 y r.2.2.1 h1 h2 h.m0 h.m1)
  have hs0 := h.s0; have hs1 := h.s1
  have := nth_range (w := r.2.2.2.2.1) h1 h2 h.m0 h.m1 h.k0 h.k1
  have hd := dim_range y r.2.2.1
  unfold occ
  dsimp only
  omega

theorem occR_sm {r : Rule} (h : ROk r) : Sm (occR r) := by
  intro x hx
  obtain ⟨i, hi, rfl⟩ := List.mem_map.1 hx
  have hi := List.mem_range.1 hi
  have h0 := h.y0; have h2 := h.y2
  have := occ_range h (y := r.1 + (i : Int)) (by omega) (by omega)
  omega

theorem occs_sm {l : List Rule} (h : ∀ r ∈ l, ROk r) : Sm (occs l) := by
  intro x hx
  obtain ⟨r, hr, hx⟩ := List.mem_flatMap.1 hx
  exact occR_sm (h r hr) x hx

theorem occ_l4 {r : Rule} (h : ROk r) (rs : List Rule) (a b : Int) : ∀ (n : Nat) (i : Nat) (acc : TrL), r.1 + (i : Int) + n = r.2.1 + 1 → acc.length + n ≤ 100000 →
    zone_occurrences_l4 (r.1 + (i : Int)) rs a b r.1 r.2.1 r.2.2.1 r.2.2.2.1 r.2.2.2.2.1 r.2.2.2.2.2.1 r.2.2.2.2.2.2 acc = some (rs, a, b, acc ++ (List.range n).map fun (j : Nat) => occ r (r.1 + (i : Int) + (j : Int)))
  | 0, i, acc, hi, _ => by
    rw [zone_occurrences_l4_eq]
    simp only [zone_occurrences_l4_step]
    rw [dec_false (by omega), cond_false, lpK_inr]
    simp
  | n + 1, i, acc, hi, hl => by
    have h0 := h.y0; have h2 := h.y2; have hs0 := h.s0; have hs1 := h.s1
    have hv := num_range (dim_valid1 (r.1 + (i : Int)) r.2.2.1 (by omega) (by omega) h.m0 h.m1)
    have hn := nth_range (w := r.2.2.2.2.1) (y := r.1 + (i : Int)) (by omega) (by omega) h.m0 h.m1 h.k0 h.k1
    have hd := dim_range (r.1 + (i : Int)) r.2.2.1
    rw [zone_occurrences_l4_eq]
    simp only [zone_occurrences_l4_step]
    rw [dec_true (show r.1 + (i : Int) ≤ r.2.1 by omega), Nth_ok _ _ _ _ (by omega) (by omega) h.m0 h.m1 h.k0 h.k1 h.d0 h.d1]
    simp only [cond_true, Option.bind_some]
    rw [w64_in (x := nth (r.1 + (i : Int)) r.2.2.1 r.2.2.2.1 r.2.2.2.2.1 * 86400) (by omega) (by omega), w64_in (x := nth (r.1 + (i : Int)) r.2.2.1 r.2.2.2.1 r.2.2.2.2.1 * 86400 + r.2.2.2.2.2.1) (by omega) (by omega),
      w64_in (x := r.1 + (i : Int) + 1) (by omega) (by omega)]
    rw [dec_true (by simp [sizeMax]; omega)]
    simp only [cond_true, lpK_inl]
    have ih := occ_l4 h rs a b n (i + 1) (acc ++ [occ r (r.1 + (i : Int))]) (by omega) (by simp; omega)
    rw [show r.1 + (i : Int) + 1 = r.1 + ((i + 1 : Nat) : Int) by omega]
    refine ih.trans ?_
    have hmap : (List.range n).map (fun (j : Nat) => occ r (r.1 + ((i + 1 : Nat) : Int) + (j : Int))) = (List.range n).map ((fun (j : Nat) => occ r (r.1 + (i : Int) + (j : Int))) ∘ Nat.succ) := List.map_congr_left fun j _ => by
      simp only [Function.comp]
      congr 1
      omega
    rw [List.range_succ_eq_map, List.map_cons, List.map_map, hmap]
    simp

theorem occ_l2 {rs : List Rule} (h : ∀ r ∈ rs, ROk r) (hlen : rs.length ≤ 100) : ∀ (n i : Nat) (acc : TrL), i + n = rs.length → acc.length ≤ 300 * i →
    zone_occurrences_l2 rs (rs.length : Int) (i : Int) acc = some (acc ++ occs (rs.drop i))
  | 0, i, acc, hi, _ => by
    rw [zone_occurrences_l2_eq]
    simp only [zone_occurrences_l2_step]
    rw [dec_false (by omega), cond_false, lpK_inr, List.drop_of_length_le (by omega)]
    simp [occs]
  | n + 1, i, acc, hi, hl => by
    have hlt : i < rs.length := by omega
    have hr := h rs[i] (List.getElem_mem hlt)
    have h0 := hr.y0; have h1 := hr.y1; have h2 := hr.y2
    have hg : rs.getD i ((0 : Int), ((0 : Int), ((0 : Int), ((0 : Int), ((0 : Int), ((0 : Int), (0 : Int))))))) = rs[i] := by simp [hlt]
    have hl4 := occ_l4 hr rs (rs.length : Int) (i : Int) (rs[i].2.1 - rs[i].1 + 1).toNat 0 acc (by omega) (by omega)
    rw [show rs[i].1 + ((0 : Nat) : Int) = rs[i].1 by omega] at hl4
    have ih := occ_l2 h hlen n (i + 1) (acc ++ occR rs[i]) (by omega) (by simp [occR]; omega)
    rw [zone_occurrences_l2_eq]
    simp only [zone_occurrences_l2_step]
    rw [dec_true (show (i : Int) < (rs.length : Int) by omega), inR_t (by omega) (by omega)]
    simp only [cond_true, Int.toNat_natCast, hg, hl4, Option.bind_some]
    rw [w64_in (by omega) (by omega), lpK_inl, List.drop_eq_getElem_cons hlt]
    refine ih.trans ?_
    rw [List.append_assoc]
    rfl

theorem occ_l0 {rs : List Rule} (h : ∀ r ∈ rs, ROk r) (hlen : rs.length ≤ 100) (nm : ByteArray) (o : Int) : ∀ (n i : Nat) (s : Int), i + n = rs.length → 0 ≤ s → s ≤ 300 * i →
    zone_occurrences_l0 s rs (rs.length : Int) (i : Int) nm o rs = some (.inr (s + ((occs (rs.drop i)).length : Int), nm, o, rs))
  | 0, i, s, hi, _, _ => by
    rw [zone_occurrences_l0_eq]
    simp only [zone_occurrences_l0_step]
    rw [dec_false (by omega), cond_false, lpK_inr, List.drop_of_length_le (by omega)]
    simp [occs]
  | n + 1, i, s, hi, hs0, hs1 => by
    have hlt : i < rs.length := by omega
    have hr := h rs[i] (List.getElem_mem hlt)
    have h0 := hr.y0; have h1 := hr.y1; have h2 := hr.y2
    have hg : rs.getD i ((0 : Int), ((0 : Int), ((0 : Int), ((0 : Int), ((0 : Int), ((0 : Int), (0 : Int))))))) = rs[i] := by simp [hlt]
    have ih := occ_l0 h hlen nm o n (i + 1) (s + (rs[i].2.1 - rs[i].1 + 1)) (by omega) (by omega) (by omega)
    have hrule : zone_rule (rs[i].1, (rs[i].2.1, (rs[i].2.2.1, (rs[i].2.2.2.1, (rs[i].2.2.2.2.1, (rs[i].2.2.2.2.2.1, rs[i].2.2.2.2.2.2)))))) = some 0 := rule_ok hr
    rw [zone_occurrences_l0_eq]
    simp only [zone_occurrences_l0_step]
    rw [dec_true (show (i : Int) < (rs.length : Int) by omega), inR_t (by omega) (by omega)]
    simp only [cond_true, Int.toNat_natCast, hg, hrule, Option.bind_some, bne_self_eq_false, cond_false]
    rw [w64_in (x := rs[i].2.1 - rs[i].1) (by omega) (by omega), w64_in (x := rs[i].2.1 - rs[i].1 + 1) (by omega) (by omega), w64_in (x := s + (rs[i].2.1 - rs[i].1 + 1)) (by omega) (by omega), w64_in (x := (i : Int) + 1) (by omega) (by omega), lpK_inl]
    refine ih.trans ?_
    rw [List.drop_eq_getElem_cons hlt]
    have : ((occs (rs[i] :: rs.drop (i + 1))).length : Int) = (rs[i].2.1 - rs[i].1 + 1) + ((occs (rs.drop (i + 1))).length : Int) := by
      have e1 : (occR rs[i]).length = (rs[i].2.1 - rs[i].1 + 1).toNat := by simp [occR]
      show ((occR rs[i] ++ occs (rs.drop (i + 1))).length : Int) = _
      rw [List.length_append, e1]; omega
    rw [this]
    congr 3; omega

theorem occurrences_ok {nm : ByteArray} {o : Int} {rs : List Rule} (h : ∀ r ∈ rs, ROk r) (ho0 : -64800 ≤ o) (ho1 : o ≤ 64800) (hlen : rs.length ≤ 16) (hn : (occs rs).length < 20) : zone_occurrences (nm, (o, rs)) = some (isort (occs rs), 0) := by
  have e0 := occ_l0 h (by omega) nm o rs.length 0 0 (by omega) (by omega) (by omega)
  have e2 := occ_l2 h (by omega) rs.length 0 [] (by omega) (by simp)
  rw [List.drop_zero] at e0 e2
  simp only [zone_occurrences, in_t ho0 ho1, Option.bind_some, Bool.not_true, cond_false, show Int.ofNat (List.length rs) = (rs.length : Int) from rfl]
  rw [dec_false (show ¬ (rs.length : Int) > 16 by omega), cond_false, show zone_occurrences_l0 0 rs (rs.length : Int) 0 nm o rs = _ from e0]
  simp only [Option.bind_some, sumC_inr]
  rw [dec_false (by omega), cond_false, show Int.ofNat (List.length rs) = (rs.length : Int) from rfl, show zone_occurrences_l2 rs (rs.length : Int) 0 [] = _ from e2]
  simp only [Option.bind_some, List.nil_append, SortStable_ok (occs_sm h) hn]

/-! The transitions. -/

def outT (now : Int) : TrL → TrL
  | [] => []
  | x :: r => if x.2 = now then outT now r else (x.1 - now, x.2) :: outT x.2 r

def Good (now : Int) (p : Option Int) : TrL → Prop
  | [] => True
  | x :: r => if x.2 = now then Good now p r else (-86400 < x.2 - now ∧ x.2 - now < 86400 ∧ 1000000 < x.1 - now ∧ x.1 - now ≤ 8589000000 ∧ (∀ q, p = some q → q + 604800 ≤ x.1 - now) ∧ -64800 ≤ x.2 ∧ x.2 ≤ 64800) ∧ Good x.2 (some (x.1 - now)) r

theorem Trans_lp (L : TrL) (hL : L.length ≤ 1000) : ∀ (n i : Nat) (now : Int) (acc : TrL), i + n = L.length → -64800 ≤ now → now ≤ 64800 → acc.length ≤ i → (∀ x ∈ acc, 0 ≤ x.1 ∧ x.1 ≤ 8589934592) → Good now (acc.getLast?.map (·.1)) (L.drop i) →
    zone_Transitions_l0 now (L.length : Int) (i : Int) acc L = some (.inr (acc ++ outT now (L.drop i)))
  | 0, i, now, acc, hi, _, _, _, _, _ => by
    rw [zone_Transitions_l0_eq]
    simp only [zone_Transitions_l0_step]
    rw [dec_false (by omega), cond_false, lpK_inr, List.drop_of_length_le (by omega)]
    simp [outT]
  | n + 1, i, now, acc, hi, hn0, hn1, hal, hacc, hg => by
    have hlt : i < L.length := by omega
    rw [List.drop_eq_getElem_cons hlt] at hg ⊢
    have hgd : L.getD i ((0 : Int), (0 : Int)) = L[i] := by simp [hlt]
    rw [zone_Transitions_l0_eq]
    simp only [zone_Transitions_l0_step]
    rw [dec_true (show (i : Int) < (L.length : Int) by omega), inR_t (by omega) (by omega)]
    simp only [cond_true, Int.toNat_natCast, hgd]
    generalize L[i] = x at *
    rw [w64_in (x := (i : Int) + 1) (by omega) (by omega)]
    simp only [Good] at hg
    by_cases hx : x.2 = now
    · rw [if_pos hx] at hg
      rw [beq_t hx]
      simp only [cond_true, lpK_inl, outT]
      rw [if_pos hx]
      exact Trans_lp L hL n (i + 1) now acc (by omega) hn0 hn1 (by omega) hacc hg
    · rw [if_neg hx] at hg
      obtain ⟨⟨g1, g2, g3, g4, g5, g6, g7⟩, g8⟩ := hg
      rw [beq_f hx, w64_in (x := x.1 - now) (by omega) (by omega), w64_in (x := x.2 - now) (by omega) (by omega), dec_false (show ¬ x.2 - now ≥ 86400 by omega), dec_false (show ¬ x.2 - now ≤ -86400 by omega)]
      simp only [cond_false, in_t (show (0 : Int) ≤ x.1 - now by omega) (show x.1 - now ≤ 8589934592 by omega), Option.bind_some, Bool.not_true, Bool.not_false, Bool.true_and, show Int.ofNat (List.length acc) = (acc.length : Int) from rfl]
      rw [w64_in (x := (acc.length : Int) - 1) (by omega) (by omega)]
      have hnext := Trans_lp L hL n (i + 1) x.2 (acc ++ [(x.1 - now, x.2)]) (by omega) g6 g7 (by simp; omega)
        (fun y hy => by
          rcases List.mem_append.1 hy with hy | hy
          · exact hacc y hy
          · simp at hy; subst hy; exact ⟨by show (0 : Int) ≤ x.1 - now; omega, by show x.1 - now ≤ 8589934592; omega⟩) (by simpa using g8)
      have hout : outT now (x :: L.drop (i + 1)) = (x.1 - now, x.2) :: outT x.2 (L.drop (i + 1)) := by simp [outT, hx]
      rw [hout]
      rw [List.append_assoc] at hnext
      by_cases ha : acc = []
      · subst ha
        simp only [List.length_nil]
        rw [show inR (((0 : Nat) : Int) - 1) 0 = false from rfl, show decide (((0 : Nat) : Int) > 0) = false from rfl]
        simp only [Bool.not_false, cond_true, cond_false, Bool.or_true]
        rw [dec_true (by simp [sizeMax])]
        simp only [cond_true, lpK_inl]
        exact hnext
      · have hpos : 0 < acc.length := List.length_pos_iff.2 ha
        have hlast : acc.getLast? = some (acc.getD (acc.length - 1) (0, 0)) := by
          rw [List.getLast?_eq_getElem?, List.getD_eq_getElem?_getD, List.getElem?_eq_getElem (show acc.length - 1 < acc.length by omega)]; rfl
        rw [hlast] at g5
        have g5 : (acc.getD (acc.length - 1) ((0 : Int), (0 : Int))).1 + 604800 ≤ x.1 - now := g5 _ rfl
        have hb := hacc (acc.getD (acc.length - 1) (0, 0)) (List.mem_of_getLast? hlast)
        rw [inR_t (by omega) (by omega), dec_true (show (acc.length : Int) > 0 by omega), show ((acc.length : Int) - 1).toNat = acc.length - 1 by omega]
        simp only [Bool.true_or, cond_true]
        rw [w64_in (by omega) (by omega), dec_false (show ¬ x.1 - now < (acc.getD (acc.length - 1) ((0 : Int), (0 : Int))).1 + 604800 by omega), dec_true (by simp [sizeMax]; omega)]
        simp only [cond_true, cond_false, lpK_inl]
        exact hnext

/-- A chain of transitions. -/
def Chn (p : Option Int) : TrL → Prop
  | [] => True
  | x :: r => (1000000 < x.1 ∧ x.1 ≤ 8589000000 ∧ (∀ q, p = some q → q + 604800 ≤ x.1) ∧ -64800 ≤ x.2 ∧ x.2 ≤ 64800) ∧ Chn (some x.1) r

theorem chn_out : ∀ (L : TrL) (now : Int) (p : Option Int), Good now p L → Chn p (outT now L)
  | [], _, _, _ => trivial
  | x :: r, now, p, h => by
    simp only [Good] at h
    by_cases hx : x.2 = now
    · rw [if_pos hx] at h
      simp only [outT]; rw [if_pos hx]
      exact chn_out r now p h
    · rw [if_neg hx] at h
      simp only [outT]; rw [if_neg hx]
      obtain ⟨⟨g1, g2, g3, g4, g5, g6, g7⟩, g8⟩ := h
      exact ⟨⟨g3, g4, g5, g6, g7⟩, chn_out r x.2 _ g8⟩

theorem out_len : ∀ (L : TrL) (now : Int), (outT now L).length ≤ L.length
  | [], _ => Nat.le_refl _
  | x :: r, now => by
    simp only [outT]
    split
    · have := out_len r now; simp; omega
    · have := out_len r x.2; simp; omega

theorem chn_all : ∀ (l : TrL) (p : Option Int), Chn p l → (∀ i, i + 1 < l.length → tat l i + 604800 ≤ tat l (i + 1)) ∧ (∀ i, i < l.length → 1000000 < tat l i ∧ tat l i ≤ 8589000000) ∧
    (∀ o i, -64800 ≤ o → o ≤ 64800 → i ≤ l.length → -64800 ≤ tof o l i ∧ tof o l i ≤ 64800)
  | [], _, _ => ⟨fun i h => by simp at h, fun i h => by simp at h, fun o i h1 h2 h3 => by
      have : i = 0 := by simpa using h3
      subst this; exact ⟨h1, h2⟩⟩
  | x :: r, p, h => by
    obtain ⟨⟨g3, g4, g5, g6, g7⟩, g8⟩ := h
    obtain ⟨h1, h2, h3⟩ := chn_all r _ g8
    refine ⟨fun i hi => ?_, fun i hi => ?_, fun o i ho0 ho1 hi => ?_⟩
    · cases i with
      | zero =>
        cases r with
        | nil => simp at hi
        | cons y ys =>
          have := g8.1.2.2.1 _ rfl
          exact this
      | succ i => exact h1 i (by simp at hi ⊢; omega)
    · cases i with
      | zero => exact ⟨g3, g4⟩
      | succ i => exact h2 i (by simp at hi ⊢; omega)
    · cases i with
      | zero => exact ⟨ho0, ho1⟩
      | succ i =>
        cases i with
        | zero => exact ⟨g6, g7⟩
        | succ i => exact h3 x.2 (i + 1) g6 g7 (by simp at hi ⊢; omega)

theorem chn_tok {o : Int} {l : TrL} (h : Chn none l) (hl : l.length ≤ 1000) (h0 : -64800 ≤ o) (h1 : o ≤ 64800) : TOk o l := by
  obtain ⟨a, b, c⟩ := chn_all l none h
  exact ⟨hl, a, fun i hi => (b i hi).1, fun i hi => (b i hi).2, fun i hi => (c o i h0 h1 hi).1, fun i hi => (c o i h0 h1 hi).2⟩

/-- A zone's table. -/
def ZTab (z : ByteArray × (Int × List Rule)) (l : TrL) : Prop := zone_Transitions z = some (l, 0) ∧ TOk z.2.1 l

theorem ztab_of {nm : ByteArray} {o : Int} {rs : List Rule} (h : ∀ r ∈ rs, ROk r) (ho0 : -64800 ≤ o) (ho1 : o ≤ 64800) (hlen : rs.length ≤ 16) (hn : (occs rs).length < 20) (hg : Good o none (isort (occs rs))) : ZTab (nm, (o, rs)) (outT o (isort (occs rs))) := by
  have hl : (isort (occs rs)).length ≤ 1000 := by simp [isort, isortRev_len]; omega
  refine ⟨?_, chn_tok (chn_out _ _ _ hg) (by have := out_len (isort (occs rs)) o; omega) ho0 ho1⟩
  have := Trans_lp (isort (occs rs)) hl (isort (occs rs)).length 0 o [] (by omega) ho0 ho1 (by simp) (by simp) hg
  simp only [zone_Transitions, occurrences_ok h ho0 ho1 hlen hn, Option.bind_some, bne_self_eq_false, cond_false, show Int.ofNat (List.length (isort (occs rs))) = ((isort (occs rs)).length : Int) from rfl]
  rw [List.drop_zero] at this
  rw [show zone_Transitions_l0 o ((isort (occs rs)).length : Int) 0 [] (isort (occs rs)) = _ from this]
  rfl

theorem Of_ok {z : ByteArray × (Int × List Rule)} {l : TrL} (h : ZTab z l) : zone_Of z = some ((z.2.1, l), 0) := by
  simp only [zone_Of, show zone_Transitions (z.1, (z.2.1, z.2.2)) = _ from h.1, Option.bind_some]

theorem civilTime_ok {z : ByteArray × (Int × List Rule)} {l : TrL} (h : ZTab z l) {d c : Int} (hc : 0 ≤ c) (hc2 : c ≤ 86399) : zone_civilTime z (d, c) = some ((z.2.1, l), 0) := by
  simp only [zone_civilTime, show zone_Of (z.1, (z.2.1, z.2.2)) = _ from Of_ok h, Option.bind_some, bne_self_eq_false, cond_false, in_t hc hc2, Bool.not_true]

theorem open_ok {z : ByteArray × (Int × List Rule)} {l : TrL} (h : ZTab z l) {t : Int} (h0 : 0 ≤ t) (h1 : t ≤ 8589934592) : zone_open z t = some ((z.2.1, l), 0) := by
  simp only [zone_open, show zone_Of (z.1, (z.2.1, z.2.2)) = _ from Of_ok h, Option.bind_some, bne_self_eq_false, cond_false, in_t h0 h1, Bool.not_true]

theorem ToLocal_ok {z : ByteArray × (Int × List Rule)} {l : TrL} (h : ZTab z l) {t : Int} {k : Nat} (h0 : 0 ≤ t) (h1 : t ≤ 8589934592) (hk : k ≤ l.length) (hk1 : frm l k ≤ t) (hk2 : t < frm l (k + 1)) :
    zone_ToLocal z t = some (((t + tof z.2.1 l k) / 86400, (t + tof z.2.1 l k) % 86400), 0) := by
  simp only [zone_ToLocal, show zone_open (z.1, (z.2.1, z.2.2)) t = _ from open_ok h h0 h1, Option.bind_some, bne_self_eq_false, cond_false, Local_ok h.2 hk hk1 hk2]

theorem FromLocal_ok {z : ByteArray × (Int × List Rule)} {l : TrL} (h : ZTab z l) {d c : Int} (hc : 0 ≤ c) (hc2 : c ≤ 86399) {r : List Int} (hr : zone_Table_All (z.2.1, l) (d, c) = some r) : zone_FromLocal z (d, c) = some (r, 0) := by
  simp only [zone_FromLocal, show zone_civilTime (z.1, (z.2.1, z.2.2)) (d, c) = _ from civilTime_ok h hc hc2, Option.bind_some, bne_self_eq_false, cond_false, hr]

theorem First_ok' {z : ByteArray × (Int × List Rule)} {l : TrL} (h : ZTab z l) {d c : Int} (hc : 0 ≤ c) (hc2 : c ≤ 86399) {t : Int} (hr : zone_Table_First (z.2.1, l) (d, c) = some (t, true)) : zone_First z (d, c) = some (t, 0) := by
  simp only [zone_First, show zone_civilTime (z.1, (z.2.1, z.2.2)) (d, c) = _ from civilTime_ok h hc hc2, Option.bind_some, bne_self_eq_false, cond_false, hr, Bool.not_true]
end Go.Proofs.Pw

/- The zones that the dice make are right. -/
open Go Go.Lft
namespace Go.Proofs.Pw

theorem nth_lo {y m k w : Int} (hm1 : 1 ≤ m) (hm2 : m ≤ 12) (hk1 : 2 ≤ k) (hk2 : k ≤ 5) : num y m 1 + 7 ≤ nth y m k w ∧ nth y m k w ≤ num y m 1 + 34 := by
  have hd := dim_pos y m hm1 hm2
  unfold nth
  dsimp only
  split <;> omega
theorem nth_hi {y m k w : Int} (hm1 : 1 ≤ m) (hm2 : m ≤ 12) (hk1 : 1 ≤ k) (hk2 : k ≤ 4) : num y m 1 ≤ nth y m k w ∧ nth y m k w ≤ num y m 1 + 27 := by
  have hd := dim_pos y m hm1 hm2
  unfold nth
  dsimp only
  split <;> omega

theorem isort2 {a b : Int × Int} (h : a.1 < b.1) : isort [a, b] = [a, b] := by
  simp [isort, isortRev, insRev, show ¬ b.1 < a.1 by omega]
theorem isort4 {a b c d : Int × Int} (h1 : a.1 < c.1) (h2 : c.1 < b.1) (h3 : b.1 < d.1) : isort [a, b, c, d] = [a, c, b, d] := by
  simp [isort, isortRev, insRev, show ¬ b.1 < a.1 by omega, h2, show ¬ c.1 < a.1 by omega, show ¬ d.1 < b.1 by omega]

theorem occs2_25 (r1 r2 : Rule) (h1 : r1.1 = 2025) (h2 : r1.2.1 = 2025) (h3 : r2.1 = 2025) (h4 : r2.2.1 = 2025) : occs [r1, r2] = [occ r1 2025, occ r2 2025] := by
  simp [occs, occR, h1, h2, h3, h4]
theorem occs2_26 (r1 r2 : Rule) (h1 : r1.1 = 2025) (h2 : r1.2.1 = 2026) (h3 : r2.1 = 2025) (h4 : r2.2.1 = 2026) : occs [r1, r2] = [occ r1 2025, occ r1 2026, occ r2 2025, occ r2 2026] := by
  simp [occs, occR, h1, h2, h3, h4, List.range_succ]

theorem good_add {now : Int} {p : Option Int} {x : Int × Int} {r : TrL} (hx : x.2 ≠ now) (h : -86400 < x.2 - now ∧ x.2 - now < 86400 ∧ 1000000 < x.1 - now ∧ x.1 - now ≤ 8589000000 ∧ -64800 ≤ x.2 ∧ x.2 ≤ 64800)
    (hp : ∀ q, p = some q → q + 604800 ≤ x.1 - now) (hr : Good x.2 (some (x.1 - now)) r) : Good now p (x :: r) := by
  simp only [Good]
  rw [if_neg hx]
  exact ⟨⟨h.1, h.2.1, h.2.2.1, h.2.2.2.1, hp, h.2.2.2.2.1, h.2.2.2.2.2⟩, hr⟩
theorem good_skip {now : Int} {p : Option Int} {x : Int × Int} {r : TrL} (hx : x.2 = now) (hr : Good now p r) : Good now p (x :: r) := by
  simp only [Good]
  rw [if_pos hx]
  exact hr
theorem no_prev {P : Int → Prop} : ∀ q, (none : Option Int) = some q → P q := fun _ h => by simp at h
theorem one_prev {P : Int → Prop} {a : Int} (h : P a) : ∀ q, some a = some q → P q := fun q hq => by simp at hq; subst hq; exact h

theorem n251 : num 2025 1 1 = 20089 := by decide
theorem n261 : num 2026 1 1 = 20454 := by decide
theorem n252 : num 2025 2 1 = 20120 := by decide
theorem n253 : num 2025 3 1 = 20148 := by decide
theorem n262 : num 2026 2 1 = 20485 := by decide
theorem n263 : num 2026 3 1 = 20513 := by decide

/-- The rules of such a zone, and that they are right. -/
structure MZ (o : Int) (rs : List Rule) : Prop where
  o0 : -43200 ≤ o
  o1 : o ≤ 45000
  ok : ∀ r ∈ rs, ROk r
  len : rs.length ≤ 2
  few : (occs rs).length < 20
  good : Good o none (isort (occs rs))

theorem MZ.tab {o : Int} {rs : List Rule} (h : MZ o rs) (nm : ByteArray) : ZTab (nm, (o, rs)) (outT o (isort (occs rs))) :=
  ztab_of h.ok (by have := h.o0; omega) (by have := h.o1; omega) (by have := h.len; omega) h.few h.good

theorem mz0 {o : Int} (h0 : -43200 ≤ o) (h1 : o ≤ 45000) : MZ o [] := ⟨h0, h1, by simp, by simp, by decide, trivial⟩

theorem ok2 {r1 r2 : Rule} (h1 : ROk r1) (h2 : ROk r2) : ∀ r ∈ [r1, r2], ROk r := by
  intro r hr
  simp at hr
  rcases hr with rfl | rfl
  · exact h1
  · exact h2

theorem mz1 {o last : Int} (h0 : -43200 ≤ o) (h1 : o ≤ 45000) (hl : last = 2025 ∨ last = 2026) : MZ o [(2025, (last, (3, (5, (6, (7200, o + 3600)))))), (2025, (last, (10, (5, (6, (10800, o))))))] := by
  have a1 : nth 2025 3 5 6 = 20177 := by decide
  have a2 : nth 2025 10 5 6 = 20387 := by decide
  have a3 : nth 2026 3 5 6 = 20541 := by decide
  have a4 : nth 2026 10 5 6 = 20751 := by decide
  have hok := ok2 (r1 := (2025, (last, (3, (5, (6, (7200, o + 3600))))))) (r2 := (2025, (last, (10, (5, (6, (10800, o))))))) (by constructor <;> (dsimp only; omega)) (by constructor <;> (dsimp only; omega))
  rcases hl with rfl | rfl
  · have e := occs2_25 (2025, (2025, (3, (5, (6, (7200, o + 3600)))))) (2025, (2025, (10, (5, (6, (10800, o)))))) rfl rfl rfl rfl
    refine ⟨h0, h1, hok, by simp, by rw [e]; simp, ?_⟩
    rw [e, isort2 (by simp only [occ]; omega)]
    refine good_add (by simp only [occ]; omega) (by simp only [occ]; omega) no_prev (good_add (by simp only [occ]; omega) (by simp only [occ]; omega) (one_prev (by simp only [occ]; omega)) trivial)
  · have e := occs2_26 (2025, (2026, (3, (5, (6, (7200, o + 3600)))))) (2025, (2026, (10, (5, (6, (10800, o)))))) rfl rfl rfl rfl
    refine ⟨h0, h1, hok, by simp, by rw [e]; simp, ?_⟩
    rw [e, isort4 (by simp only [occ]; omega) (by simp only [occ]; omega) (by simp only [occ]; omega)]
    refine good_add (by simp only [occ]; omega) (by simp only [occ]; omega) no_prev (good_add (by simp only [occ]; omega) (by simp only [occ]; omega) (one_prev (by simp only [occ]; omega))
      (good_add (by simp only [occ]; omega) (by simp only [occ]; omega) (one_prev (by simp only [occ]; omega)) (good_add (by simp only [occ]; omega) (by simp only [occ]; omega) (one_prev (by simp only [occ]; omega)) trivial)))

theorem mz2 {o last k1 w1 s1 c m2 k2 w2 s2 : Int} (h0 : -43200 ≤ o) (h1 : o ≤ 45000) (hl : last = 2025 ∨ last = 2026) (hk : 1 ≤ k1) (hk' : k1 ≤ 4) (hw : 0 ≤ w1) (hw' : w1 ≤ 6) (hs : 0 ≤ s1) (hs' : s1 ≤ 82800) (hc : 1800 ≤ c) (hc' : c ≤ 14400)
    (hm : m2 = 2 ∨ m2 = 3) (hj : 2 ≤ k2) (hj' : k2 ≤ 5) (hx : 0 ≤ w2) (hx' : w2 ≤ 6) (ht : 0 ≤ s2) (ht' : s2 ≤ 82800) : MZ o [(2025, (last, (1, (k1, (w1, (s1, o + c)))))), (2025, (last, (m2, (k2, (w2, (s2, o))))))] := by
  have hok := ok2 (r1 := (2025, (last, (1, (k1, (w1, (s1, o + c))))))) (r2 := (2025, (last, (m2, (k2, (w2, (s2, o))))))) (by constructor <;> (dsimp only; omega)) (by constructor <;> (dsimp only; omega))
  have b1 := nth_hi (y := 2025) (m := 1) (k := k1) (w := w1) (by omega) (by omega) hk hk'
  have b2 := nth_hi (y := 2026) (m := 1) (k := k1) (w := w1) (by omega) (by omega) hk hk'
  have b3 := nth_lo (y := 2025) (m := m2) (k := k2) (w := w2) (by omega) (by omega) hj hj'
  have b4 := nth_lo (y := 2026) (m := m2) (k := k2) (w := w2) (by omega) (by omega) hj hj'
  have c1 : 20120 ≤ num 2025 m2 1 ∧ num 2025 m2 1 ≤ 20148 := by rcases hm with rfl | rfl <;> simp [n252, n253]
  have c2 : 20485 ≤ num 2026 m2 1 ∧ num 2026 m2 1 ≤ 20513 := by rcases hm with rfl | rfl <;> simp [n262, n263]
  rw [n251] at b1
  rw [n261] at b2
  rcases hl with rfl | rfl
  · have e := occs2_25 (2025, (2025, (1, (k1, (w1, (s1, o + c)))))) (2025, (2025, (m2, (k2, (w2, (s2, o)))))) rfl rfl rfl rfl
    refine ⟨h0, h1, hok, by simp, by rw [e]; simp, ?_⟩
    rw [e, isort2 (by simp only [occ]; omega)]
    refine good_add (by simp only [occ]; omega) (by simp only [occ]; omega) no_prev (good_add (by simp only [occ]; omega) (by simp only [occ]; omega) (one_prev (by simp only [occ]; omega)) trivial)
  · have e := occs2_26 (2025, (2026, (1, (k1, (w1, (s1, o + c)))))) (2025, (2026, (m2, (k2, (w2, (s2, o)))))) rfl rfl rfl rfl
    refine ⟨h0, h1, hok, by simp, by rw [e]; simp, ?_⟩
    rw [e, isort4 (by simp only [occ]; omega) (by simp only [occ]; omega) (by simp only [occ]; omega)]
    refine good_add (by simp only [occ]; omega) (by simp only [occ]; omega) no_prev (good_add (by simp only [occ]; omega) (by simp only [occ]; omega) (one_prev (by simp only [occ]; omega))
      (good_add (by simp only [occ]; omega) (by simp only [occ]; omega) (one_prev (by simp only [occ]; omega)) (good_add (by simp only [occ]; omega) (by simp only [occ]; omega) (one_prev (by simp only [occ]; omega)) trivial)))

theorem mz3 {o w s x : Int} (h0 : -43200 ≤ o) (h1 : o ≤ 45000) (hw : 0 ≤ w) (hw' : w ≤ 6) (hs : 0 ≤ s) (hs' : s ≤ 84600) (hx0 : -64800 ≤ x) (hx1 : x ≤ 64800) (hc0 : -86400 < x - o) (hc1 : x - o < 86400) : MZ o [(2026, (2026, (1, (2, (w, (s, x))))))] := by
  have b := nth_hi (y := 2026) (m := 1) (k := 2) (w := w) (by omega) (by omega) (by omega) (by omega)
  rw [n261] at b
  have e : occs [((2026 : Int), ((2026 : Int), ((1 : Int), ((2 : Int), (w, (s, x))))))] = [occ (2026, (2026, (1, (2, (w, (s, x)))))) 2026] := by simp [occs, occR]
  refine ⟨h0, h1, fun r hr => ?_, by simp, by rw [e]; simp, ?_⟩
  · simp at hr; subst hr
    constructor <;> (dsimp only; omega)
  · rw [e]
    have hi : isort [occ (2026, (2026, (1, (2, (w, (s, x)))))) 2026] = [occ (2026, (2026, (1, (2, (w, (s, x)))))) 2026] := by simp [isort, isortRev, insRev]
    rw [hi]
    by_cases hxo : x = o
    · exact good_skip hxo trivial
    · exact good_add hxo (by simp only [occ]; omega) no_prev trivial

theorem Zone_ok {L : List Int} {a : Int} (h : DOk L a) (nm : ByteArray) : ∃ o rs a', made_Dice_Zone L a nm = some ((nm, (o, rs)), L, a') ∧ MZ o rs ∧ DOk L a' := by
  obtain ⟨p, a1, e1, m1, d1⟩ := Pick_ok h (xs := [(0 : Int), (4 : Int), (-20 : Int), (22 : Int), (48 : Int), (-47 : Int)]) (by simp) (by simp)
  obtain ⟨x2, a2, e2, x20, x21, d2⟩ := Next_ok (n := 2) d1 (by omega) (by omega)
  obtain ⟨x3, a3, e3, x30, x31, d3⟩ := Next_ok (n := 3) d2 (by omega) (by omega)
  obtain ⟨y, a4, e4, y0, y1, d4⟩ := Next_ok (n := 2) d3 (by omega) (by omega)
  obtain ⟨q, a5, e5, q0, q1, d5⟩ := Next_ok (n := 4) d4 (by omega) (by omega)
  have hp : -47 ≤ p ∧ p ≤ 48 := by simp at m1; omega
  have hmul : 0 ≤ x2 * x3 ∧ x2 * x3 ≤ 2 := by
    obtain rfl | rfl : x2 = 0 ∨ x2 = 1 := by omega
    all_goals omega
  have ho0 : -43200 ≤ 900 * (p + x2 * x3) := by omega
  have ho1 : 900 * (p + x2 * x3) ≤ 45000 := by omega
  have hlast : 2025 + y = 2025 ∨ 2025 + y = 2026 := by omega
  simp only [made_Dice_Zone, e1, e2, e3, e4, e5, Option.bind_some]
  rw [w64_in (x := x2 * x3) (by omega) (by omega), w64_in (x := p + x2 * x3) (by omega) (by omega), w64_in (x := 900 * (p + x2 * x3)) (by omega) (by omega), w64_in (x := 2025 + y) (by omega) (by omega)]
  generalize 900 * (p + x2 * x3) = o at *
  generalize 2025 + y = last at *
  by_cases hq1 : q = 1
  · rw [beq_t hq1, cond_true, w64_in (x := o + 3600) (by omega) (by omega)]
    exact ⟨_, _, _, rfl, mz1 ho0 ho1 hlast, d5⟩
  · rw [beq_f hq1, cond_false]
    by_cases hq2 : q = 2
    · rw [beq_t hq2, cond_true]
      obtain ⟨b1, c1, f1, b10, b11, g1⟩ := Next_ok (n := 4) d5 (by omega) (by omega)
      obtain ⟨b2, c2, f2, b20, b21, g2⟩ := Next_ok (n := 7) g1 (by omega) (by omega)
      obtain ⟨b3, c3, f3, b30, b31, g3⟩ := Next_ok (n := 24) g2 (by omega) (by omega)
      obtain ⟨b4, c4, f4, b40, b41, g4⟩ := Next_ok (n := 8) g3 (by omega) (by omega)
      obtain ⟨b5, c5, f5, b50, b51, g5⟩ := Next_ok (n := 2) g4 (by omega) (by omega)
      obtain ⟨b6, c6, f6, m6, g6⟩ := Pick_ok g5 (xs := [(2 : Int), (3 : Int), (5 : Int)]) (by simp) (by simp)
      obtain ⟨b7, c7, f7, b70, b71, g7⟩ := Next_ok (n := 7) g6 (by omega) (by omega)
      obtain ⟨b8, c8, f8, b80, b81, g8⟩ := Next_ok (n := 24) g7 (by omega) (by omega)
      have h6 : 2 ≤ b6 ∧ b6 ≤ 5 := by simp at m6; omega
      simp only [f1, f2, f3, f4, f5, f6, f7, f8, Option.bind_some]
      rw [w64_in (x := 1 + b1) (by omega) (by omega), w64_in (x := 3600 * b3) (by omega) (by omega), w64_in (x := 1 + b4) (by omega) (by omega), w64_in (x := 1800 * (1 + b4)) (by omega) (by omega), w64_in (x := o + 1800 * (1 + b4)) (by omega) (by omega),
        w64_in (x := 2 + b5) (by omega) (by omega), w64_in (x := 3600 * b8) (by omega) (by omega)]
      exact ⟨_, _, _, rfl, mz2 ho0 ho1 hlast (by omega) (by omega) b20 (by omega) (by omega) (by omega) (by omega) (by omega) (by omega) h6.1 h6.2 b70 (by omega) (by omega) (by omega), g8⟩
    · rw [beq_f hq2, cond_false]
      by_cases hq3 : q = 3
      · rw [beq_t hq3, cond_true]
        obtain ⟨b1, c1, f1, m1, g1⟩ := Pick_ok d5 (xs := [(3600 : Int), (-3600 : Int), (82800 : Int), (-82800 : Int), (43200 : Int)]) (by simp) (by simp)
        obtain ⟨b2, c2, f2, b20, b21, g2⟩ := Next_ok (n := 7) g1 (by omega) (by omega)
        obtain ⟨b3, c3, f3, b30, b31, g3⟩ := Next_ok (n := 48) g2 (by omega) (by omega)
        have hb1 : -82800 ≤ b1 ∧ b1 ≤ 82800 := by simp at m1; omega
        simp only [f1, f2, f3, Option.bind_some]
        rw [w64_in (x := o + b1) (by omega) (by omega), w64_in (x := 1800 * b3) (by omega) (by omega)]
        by_cases hbig : o + b1 > 64800 ∨ o + b1 < -64800
        · have hb : cond (decide (o + b1 > 64800)) true (decide (o + b1 < -64800)) = true := by
            rcases hbig with hbig | hbig
            · rw [dec_true hbig]; rfl
            · rw [dec_true hbig]; cases decide (o + b1 > 64800) <;> rfl
          rw [hb, cond_true]
          exact ⟨_, _, _, rfl, mz3 ho0 ho1 b20 (by omega) (by omega) (by omega) (by omega) (by omega) (by omega) (by omega), g3⟩
        · rw [dec_false (show ¬ o + b1 > 64800 by omega), dec_false (show ¬ o + b1 < -64800 by omega)]
          simp only [cond_false]
          exact ⟨_, _, _, rfl, mz3 ho0 ho1 b20 (by omega) (by omega) (by omega) (by omega) (by omega) (by omega) (by omega), g3⟩
      · rw [beq_f hq3, cond_false]
        exact ⟨_, _, _, rfl, mz0 ho0 ho1, d5⟩
end Go.Proofs.Pw

/- Chapter 4: pieces of a table and the instants of a local time. -/
open Go Go.Lft
namespace Go.Proofs.Pw

theorem dif_out : ∀ (L : TrL) (now : Int) (p : Option Int), Good now p L → ∀ i, i < (outT now L).length → -86400 < tof now (outT now L) (i + 1) - tof now (outT now L) i ∧ tof now (outT now L) (i + 1) - tof now (outT now L) i < 86400
  | [], _, _, _, i, hi => by simp [outT] at hi
  | x :: r, now, p, h, i, hi => by
    simp only [Good] at h
    by_cases hx : x.2 = now
    · rw [if_pos hx] at h
      have e : outT now (x :: r) = outT now r := by simp [outT, hx]
      rw [e] at hi ⊢
      exact dif_out r now p h i hi
    · rw [if_neg hx] at h
      have e : outT now (x :: r) = (x.1 - now, x.2) :: outT x.2 r := by simp [outT, hx]
      rw [e] at hi ⊢
      obtain ⟨⟨g1, g2, _⟩, g8⟩ := h
      cases i with
      | zero => exact ⟨g1, g2⟩
      | succ i =>
        have := dif_out r x.2 _ g8 i (by simpa using hi)
        cases i with
        | zero => exact this
        | succ i => exact this

section
variable {o : Int} {l : TrL} (h : TOk o l)
include h

theorem frm_range {k : Nat} (hk : k ≤ l.length) : 0 ≤ frm l k ∧ frm l (k + 1) ≤ 8589934593 := by
  have g1 := h.frm_le (i := 0) (j := k) (by omega) (by omega)
  have g2 := h.frm_le (i := k + 1) (j := l.length + 1) (by omega) (by omega)
  rw [frm0] at g1
  rw [frm_end] at g2
  exact ⟨g1, g2⟩

theorem piece_uniq {i j : Nat} {t : Int} (hi : i ≤ l.length) (hj : j ≤ l.length) (a1 : frm l i ≤ t) (a2 : t < frm l (i + 1)) (b1 : frm l j ≤ t) (b2 : t < frm l (j + 1)) : i = j := by
  rcases Nat.lt_trichotomy i j with hij | hij | hij
  · have := h.frm_le (i := i + 1) (j := j) (by omega) (by omega); omega
  · exact hij
  · have := h.frm_le (i := j + 1) (j := i) (by omega) (by omega); omega

/-- Ahead of the first solution the pieces end below. -/
theorem before_sol {s : Int} (hs : 64800 < s) {a : Nat} (ha : a ≤ l.length) (hsol : Sol o l s a) (hfirst : ∀ j, j < a → ¬ Sol o l s j) : ∀ j, j < a → frm l (j + 1) ≤ s - tof o l j := by
  intro j hj
  rcases Int.lt_or_le (s - tof o l j) (frm l (j + 1)) with hlt | hle
  · exfalso
    have hns := hfirst j hj
    have hb : s - tof o l j < frm l j := by
      rcases Int.lt_or_le (s - tof o l j) (frm l j) with h' | h'
      · exact h'
      · exact absurd ⟨h', hlt⟩ hns
    have o1 := h.of0 j (by omega); have o2 := h.of1 j (by omega); have o3 := h.of0 a ha; have o4 := h.of1 a ha
    have g := h.frm_le (i := j + 1) (j := a) (by omega) (by omega)
    obtain ⟨s1, s2⟩ := hsol
    by_cases h0 : j = 0
    · subst h0
      rw [frm0] at hb; omega
    · have := h.frm_gap (i := j) (j := j + 1) (by omega) (by omega) (by omega)
      omega
  · exact hle
end
end Go.Proofs.Pw

/- Windows of a week and what is outside them; the windows and instants that the dice make. -/
open Go Go.Lft
namespace Go.Proofs.Pw

abbrev WL := List (Int × Int)

/-- Windows in order behind p. -/
def WOk (p : Int) : WL → Prop
  | [] => p ≤ 604800
  | x :: r => p ≤ x.1 ∧ x.1 < x.2 ∧ x.2 ≤ 604800 ∧ WOk x.2 r
/-- The complement from p on. -/
def winv (p : Int) : WL → WL
  | [] => if p < 604800 then [(p, 604800)] else []
  | x :: r => if p < x.1 then (p, x.1) :: winv x.2 r else winv x.2 r
def gaps (p : Int) : WL → WL
  | [] => []
  | x :: r => if p < x.1 then (p, x.1) :: gaps x.2 r else gaps x.2 r
def lastW (p : Int) : WL → Int
  | [] => p
  | x :: r => lastW x.2 r
def sumL : WL → Int
  | [] => 0
  | x :: r => (x.2 - x.1) + sumL r
def hasB (s : Int) : WL → Bool
  | [] => false
  | x :: r => cond (cond (decide (x.1 ≤ s)) (decide (s < x.2)) false) true (hasB s r)
def StW (p : Int) : WL → Prop
  | [] => True
  | x :: r => p < x.1 ∧ StW x.2 r

theorem WOk.top {p : Int} : ∀ {w : WL}, WOk p w → p ≤ 604800
  | [], h => h
  | _ :: _, h => by have := h.1; have := h.2.1; have := h.2.2.1; omega
theorem WOk.weak {p q : Int} (hq : q ≤ p) : ∀ {w : WL}, WOk p w → WOk q w
  | [], h => by show q ≤ 604800; have : p ≤ 604800 := h; omega
  | _ :: _, h => ⟨by have := h.1; omega, h.2⟩

theorem winv_ok : ∀ {w : WL} {p : Int}, WOk p w → WOk p (winv p w)
  | [], p, h => by
    simp only [winv]
    split
    · exact ⟨Int.le_refl _, by assumption, Int.le_refl _, Int.le_refl _⟩
    · exact h
  | x :: r, p, h => by
    obtain ⟨h1, h2, h3, h4⟩ := h
    simp only [winv]
    split
    · exact ⟨Int.le_refl _, by assumption, by dsimp only; omega, (winv_ok h4).weak (by dsimp only; omega)⟩
    · exact (winv_ok h4).weak (by omega)

theorem winv_split : ∀ (w : WL) (p : Int), winv p w = gaps p w ++ (if lastW p w < 604800 then [(lastW p w, 604800)] else [])
  | [], p => rfl
  | x :: r, p => by
    simp only [winv, gaps, lastW]
    rw [winv_split r x.2]
    split <;> rfl

theorem winv_len : ∀ (w : WL) (p : Int), (winv p w).length ≤ w.length + 1
  | [], p => by simp only [winv]; split <;> simp
  | x :: r, p => by
    simp only [winv]
    have := winv_len r x.2
    split <;> simp <;> omega
theorem gaps_len : ∀ (w : WL) (p : Int), (gaps p w).length ≤ w.length
  | [], p => by simp [gaps]
  | x :: r, p => by
    simp only [gaps]
    have := gaps_len r x.2
    split <;> simp <;> omega

theorem winv2_len : ∀ (w : WL) (p q : Int), WOk p w → q ≤ p → (winv q (winv p w)).length ≤ w.length + (if q < p then 1 else 0)
  | [], p, q, h, hq => by
    have hp : p ≤ 604800 := h
    simp only [winv]
    by_cases h1 : p < 604800
    · rw [if_pos h1]
      simp only [winv]
      split <;> simp
    · rw [if_neg h1]
      simp only [winv]
      by_cases h2 : q < 604800
      · rw [if_pos h2, if_pos (by omega)]; simp
      · rw [if_neg h2]; simp
  | x :: r, p, q, h, hq => by
    obtain ⟨h1, h2, h3, h4⟩ := h
    simp only [winv]
    by_cases hp : p < x.1
    · rw [if_pos hp]
      simp only [winv]
      have := winv2_len r x.2 x.1 h4 (by omega)
      rw [if_pos h2] at this
      by_cases hqp : q < p
      · rw [if_pos hqp, if_pos hqp]; simp; omega
      · rw [if_neg hqp, if_neg hqp]; simp; omega
    · rw [if_neg hp]
      have := winv2_len r x.2 q h4 (by omega)
      rw [if_pos (by omega)] at this
      simp; omega

theorem hasB_low : ∀ {w : WL} {p s : Int}, WOk p w → s < p → hasB s w = false
  | [], _, _, _, _ => rfl
  | x :: r, p, s, h, hs => by
    obtain ⟨h1, h2, h3, h4⟩ := h
    simp only [hasB]
    rw [dec_false (show ¬ x.1 ≤ s by omega), hasB_low h4 (by omega)]
    rfl

theorem winv_has : ∀ {w : WL} {p s : Int}, WOk p w → p ≤ s → s < 604800 → hasB s (winv p w) = !hasB s w
  | [], p, s, h, hs, ht => by
    simp only [winv]
    rw [if_pos (by omega)]
    simp only [hasB]
    rw [dec_true hs, dec_true ht]; rfl
  | x :: r, p, s, h, hs, ht => by
    obtain ⟨h1, h2, h3, h4⟩ := h
    by_cases hx : s < x.2
    · have hr : hasB s r = false := hasB_low h4 hx
      have hi : hasB s (winv x.2 r) = false := hasB_low (winv_ok h4) hx
      by_cases hy : s < x.1
      · simp only [winv]
        rw [if_pos (by omega)]
        simp only [hasB]
        rw [dec_true hs, dec_true hy, dec_false (show ¬ x.1 ≤ s by omega), hr]; rfl
      · simp only [winv]
        have hr' : hasB s (x :: r) = true := by
          simp only [hasB]
          rw [dec_true (show x.1 ≤ s by omega), dec_true hx]; rfl
        rw [hr']
        split
        · simp only [hasB]
          rw [dec_true hs, dec_false hy, hi]; rfl
        · exact hi
    · have ih := winv_has h4 (s := s) (by omega) ht
      have hr' : hasB s (x :: r) = hasB s r := by
        simp only [hasB]
        rw [dec_false hx]; cases decide (x.1 ≤ s) <;> rfl
      rw [hr', ← ih]
      simp only [winv]
      split
      · simp only [hasB]
        rw [dec_true hs, dec_false (show ¬ s < x.1 by omega)]; rfl
      · rfl

theorem winv_sum : ∀ {w : WL} {p : Int}, WOk p w → sumL w + sumL (winv p w) = 604800 - p
  | [], p, h => by
    have hp : p ≤ 604800 := h
    simp only [winv]
    split
    · simp only [sumL]; omega
    · simp only [sumL]; omega
  | x :: r, p, h => by
    obtain ⟨h1, h2, h3, h4⟩ := h
    have ih := winv_sum h4
    simp only [winv]
    split
    · simp only [sumL]; omega
    · simp only [sumL]; omega
theorem sumL_range : ∀ {w : WL} {p : Int}, WOk p w → 0 ≤ sumL w ∧ sumL w ≤ 604800 - p
  | [], p, h => by have hp : p ≤ 604800 := h; simp only [sumL]; omega
  | x :: r, p, h => by
    obtain ⟨h1, h2, h3, h4⟩ := h
    have := sumL_range h4
    simp only [sumL]; omega

theorem winv_st : ∀ {w : WL} {p q : Int}, WOk p w → q < p → StW q (winv p w)
  | [], p, q, _, hq => by
    simp only [winv]
    split
    · exact ⟨hq, trivial⟩
    · trivial
  | x :: r, p, q, h, hq => by
    obtain ⟨h1, h2, h3, h4⟩ := h
    simp only [winv]
    split
    · exact ⟨hq, winv_st h4 h2⟩
    · exact winv_st h4 (by omega)

theorem st_get : ∀ {w : WL} {p : Int}, StW p w → ∀ i, i + 1 < w.length → (w.getD i (0, 0)).2 < (w.getD (i + 1) (0, 0)).1
  | [], _, _, i, hi => by simp at hi
  | x :: [], _, _, i, hi => by simp at hi
  | x :: y :: r, p, h, i, hi => by
    cases i with
    | zero => exact h.2.1
    | succ i => exact st_get h.2 i (by simpa using hi)

theorem wok_get : ∀ {w : WL} {p : Int}, WOk p w → ∀ i, i < w.length → p ≤ (w.getD i (0, 0)).1 ∧ (w.getD i (0, 0)).1 < (w.getD i (0, 0)).2 ∧ (w.getD i (0, 0)).2 ≤ 604800
  | [], _, _, i, hi => by simp at hi
  | x :: r, p, h, i, hi => by
    obtain ⟨h1, h2, h3, h4⟩ := h
    cases i with
    | zero => exact ⟨h1, h2, h3⟩
    | succ i => exact wok_get (h4.weak (show p ≤ x.2 by omega)) i (by simpa using hi)
theorem wok_gap : ∀ {w : WL} {p : Int}, WOk p w → ∀ i, i + 1 < w.length → (w.getD i (0, 0)).2 ≤ (w.getD (i + 1) (0, 0)).1
  | [], _, _, i, hi => by simp at hi
  | x :: [], _, _, i, hi => by simp at hi
  | x :: y :: r, p, h, i, hi => by
    cases i with
    | zero => exact h.2.2.2.1
    | succ i => exact wok_gap h.2.2.2 i (by simpa using hi)

/-! The functions. -/

theorem Windows_lp {L : List Int} : ∀ (n : Nat) (p a : Int) (acc : WL), DOk L a → 0 ≤ p → p ≤ 604800 → acc.length + n ≤ 100 →
    ∃ w a', made_Dice_Windows_l0 p (n : Int) L a acc = some (L, a', acc ++ w) ∧ WOk p w ∧ w.length ≤ n ∧ DOk L a'
  | 0, p, a, acc, hd, _, hp, _ => by
    rw [made_Dice_Windows_l0_eq]
    simp only [made_Dice_Windows_l0_step]
    rw [dec_false (by omega), cond_false, lpK_inr]
    exact ⟨[], a, by simp, hp, by simp, hd⟩
  | n + 1, p, a, acc, hd, hp0, hp, ha => by
    obtain ⟨x, a1, e1, x0, x1, d1⟩ := Next_ok (n := 30) hd (by omega) (by omega)
    obtain ⟨y, a2, e2, y0, y1, d2⟩ := Next_ok (n := 2) d1 (by omega) (by omega)
    obtain ⟨q, a3, e3, m3, d3⟩ := Pick_ok d2 (xs := [(3600 : Int), (28800 : Int), (43200 : Int), (86400 : Int), (61 : Int), (1 : Int)]) (by simp) (by simp)
    have hq : 1 ≤ q ∧ q ≤ 86400 := by simp at m3; omega
    rw [made_Dice_Windows_l0_eq]
    simp only [made_Dice_Windows_l0_step]
    rw [dec_true (by omega)]
    simp only [cond_true, e1, e2, e3, Option.bind_some]
    rw [w64_in (x := 3600 * x) (by omega) (by omega), w64_in (x := p + 3600 * x) (by omega) (by omega), w64_in (x := 60 * y) (by omega) (by omega), w64_in (x := p + 3600 * x + 60 * y) (by omega) (by omega), w64_in (x := p + 3600 * x + 60 * y + q) (by omega) (by omega), w64_in (x := ((n + 1 : Nat) : Int) - 1) (by omega) (by omega)]
    by_cases hbig : p + 3600 * x + 60 * y + q > 604800
    · rw [dec_true hbig, cond_true, lpK_inr]
      exact ⟨[], a3, by simp, hp, by simp, d3⟩
    · rw [dec_false hbig, dec_true (by simp [sizeMax]; omega)]
      simp only [cond_false, cond_true, lpK_inl]
      obtain ⟨w, a4, e4, hw, hwl, d4⟩ := Windows_lp n (p + 3600 * x + 60 * y + q) a3 (acc ++ [(p + 3600 * x + 60 * y, p + 3600 * x + 60 * y + q)]) d3 (by omega) (by omega) (by simp; omega)
      rw [show ((n + 1 : Nat) : Int) - 1 = (n : Int) by omega]
      refine ⟨(p + 3600 * x + 60 * y, p + 3600 * x + 60 * y + q) :: w, a4, by rw [e4, List.append_assoc]; rfl, ⟨by dsimp only; omega, by dsimp only; omega, by dsimp only; omega, hw⟩, by simp; omega, d4⟩

theorem Windows_ok {L : List Int} {a : Int} (h : DOk L a) : ∃ w a', made_Dice_Windows L a = some (w, L, a') ∧ WOk 0 w ∧ w.length ≤ 3 ∧ DOk L a' := by
  obtain ⟨x, a1, e1, x0, x1, d1⟩ := Next_ok (n := 4) h (by omega) (by omega)
  obtain ⟨w, a', e2, h1, h2, h3⟩ := Windows_lp x.toNat 0 a1 [] d1 (by omega) (by omega) (by simp; omega)
  rw [show ((x.toNat : Nat) : Int) = x by omega, List.nil_append] at e2
  simp only [made_Dice_Windows, e1, Option.bind_some, e2]
  exact ⟨w, a', rfl, h1, by omega, h3⟩

theorem Instant_ok {L : List Int} {a : Int} (h : DOk L a) : ∃ t a', made_Dice_Instant L a = some (t, L, a') ∧ 1767139199 ≤ t ∧ t ≤ 1767139200 + 3600 * 575 + 3599 ∧ DOk L a' := by
  obtain ⟨x, a1, e1, x0, x1, d1⟩ := Next_ok (n := 576) h (by omega) (by omega)
  obtain ⟨y, a2, e2, y0, y1, d2⟩ := Next_ok (n := 3) d1 (by omega) (by omega)
  obtain ⟨q, a3, e3, m3, d3⟩ := Pick_ok d2 (xs := [(-1 : Int), (1 : Int), (1800 : Int), (3599 : Int)]) (by simp) (by simp)
  have hq : -1 ≤ q ∧ q ≤ 3599 := by simp at m3; omega
  simp only [made_Dice_Instant, e1, Option.bind_some, made_Dice_Bool, e2, e3]
  rw [w64_in (x := 3600 * x) (by omega) (by omega), w64_in (x := 1767139200 + 3600 * x) (by omega) (by omega), w64_in (x := 1767139200 + 3600 * x + q) (by omega) (by omega)]
  cases (y == w64 (3 - 1)) with
  | true => exact ⟨_, _, rfl, by omega, by omega, d3⟩
  | false => exact ⟨_, _, rfl, by omega, by omega, d2⟩
end Go.Proofs.Pw

/- Chapter 4: offsets at instants, the horizon, transitions. -/
open Go Go.Lft
namespace Go.Proofs.Pw

theorem ne_out : ∀ (L : TrL) (now : Int) (p : Option Int), Good now p L → ∀ i, i < (outT now L).length → tof now (outT now L) (i + 1) ≠ tof now (outT now L) i
  | [], _, _, _, i, hi => by simp [outT] at hi
  | x :: r, now, p, h, i, hi => by
    simp only [Good] at h
    by_cases hx : x.2 = now
    · rw [if_pos hx] at h
      have e : outT now (x :: r) = outT now r := by simp [outT, hx]
      rw [e] at hi ⊢
      exact ne_out r now p h i hi
    · rw [if_neg hx] at h
      have e : outT now (x :: r) = (x.1 - now, x.2) :: outT x.2 r := by simp [outT, hx]
      rw [e] at hi ⊢
      obtain ⟨_, g8⟩ := h
      cases i with
      | zero => exact hx
      | succ i =>
        have := ne_out r x.2 _ g8 i (by simpa using hi)
        cases i with
        | zero => exact this
        | succ i => exact this

theorem OffsetAt_ok {z : ByteArray × (Int × List Rule)} {l : TrL} (h : ZTab z l) {t : Int} {k : Nat} (h0 : 0 ≤ t) (h1 : t ≤ 8589934592) (hk : k ≤ l.length) (hk1 : frm l k ≤ t) (hk2 : t < frm l (k + 1)) : zone_OffsetAt z t = some (tof z.2.1 l k, 0) := by
  simp only [zone_OffsetAt, show zone_open (z.1, (z.2.1, z.2.2)) t = _ from open_ok h h0 h1, Option.bind_some, bne_self_eq_false, cond_false, offset_ok h.2 hk hk1 hk2]

theorem Horizon_nil {z : ByteArray × (Int × List Rule)} (h : ZTab z []) : zone_Horizon z = some 0 := by
  simp only [zone_Horizon, show zone_Of (z.1, (z.2.1, z.2.2)) = _ from Of_ok h, Option.bind_some, bne_self_eq_false, cond_false]
  rfl
theorem Horizon_ok {z : ByteArray × (Int × List Rule)} {l : TrL} (h : ZTab z l) (hl : 0 < l.length) : zone_Horizon z = some (l.getD (l.length - 1) (0, 0)).1 := by
  have := h.2.len
  simp only [zone_Horizon, zone_Table_Last, show zone_Of (z.1, (z.2.1, z.2.2)) = _ from Of_ok h, Option.bind_some, bne_self_eq_false, cond_false, show Int.ofNat (List.length l) = (l.length : Int) from rfl]
  rw [beq_f (show ¬ (l.length : Int) = 0 by omega), w64_in (by omega) (by omega), inR_t (by omega) (by omega), show ((l.length : Int) - 1).toNat = l.length - 1 by omega]
  rfl

section
variable {o : Int} {l : TrL} (h : TOk o l)
include h

theorem leap_far {k : Nat} (hk : k < l.length) {s : Int} (h1 : frm l (k + 1) - 64800 ≤ s) (h2 : s ≤ frm l (k + 1) + 64800) (j : Nat) (hj : j ≤ l.length) (hne : j ≠ k ∧ j ≠ k + 1) : (j < k → frm l (j + 1) ≤ s - tof o l j) ∧ ¬ Sol o l s j := by
  have o1 := h.of0 j hj; have o2 := h.of1 j hj
  rcases Nat.lt_or_ge j k with hlt | hge
  · have := h.frm_gap (i := j + 1) (j := k + 1) (by omega) (by omega) (by omega)
    refine ⟨fun _ => by omega, fun hs => ?_⟩
    have := hs.2; omega
  · have := h.frm_gap (i := k + 1) (j := j) (by omega) (by omega) (by omega)
    refine ⟨by omega, fun hs => ?_⟩
    have := hs.1; omega

theorem frm_big {k : Nat} (hk : k < l.length) : 1000000 < frm l (k + 1) ∧ frm l (k + 1) ≤ 8589000000 := by
  rw [frm_s hk]
  exact ⟨h.pos k hk, h.max k hk⟩

theorem frm_room {k : Nat} (hk : k < l.length) : frm l k + 200000 ≤ frm l (k + 1) ∧ frm l (k + 1) + 200000 ≤ frm l (k + 1 + 1) := by
  have hb := frm_big h hk
  constructor
  · by_cases h0 : k = 0
    · subst h0
      have : frm l 0 = 0 := frm0
      omega
    · have := h.frm_gap (i := k) (j := k + 1) (by omega) (by omega) (by omega)
      omega
  · by_cases h0 : k + 2 ≤ l.length
    · have := h.frm_gap (i := k + 1) (j := k + 1 + 1) (by omega) (by omega) (by omega)
      omega
    · have : frm l (k + 1 + 1) = 8589934593 := by
        have e : k + 1 + 1 = l.length + 1 := by omega
        rw [e]; exact frm_end
      omega
end
end Go.Proofs.Pw

/- Chapter 1: the reference's answers are the program's. -/
open Go Go.Lft
namespace Go.Proofs.Pw

theorem r01_Leap_eq (y : Int) : r01_Leap y = some (leapB y) := Leap_eq y

theorem r01_Days_eq (y m : Int) : r01_Days y m = some (dim y m) := by
  by_cases h : m < 1 ∨ 12 < m
  · have hk : ∀ k : Int, 1 ≤ k → k ≤ 12 → (m == k) = false := fun k h1 h2 => beq_f (by omega)
    have : dim y m = 0 := if_pos h
    rw [this]
    simp only [r01_Days, hk 1 (by omega) (by omega), hk 2 (by omega) (by omega), hk 3 (by omega) (by omega), hk 4 (by omega) (by omega), hk 5 (by omega) (by omega), hk 6 (by omega) (by omega), hk 7 (by omega) (by omega),
      hk 8 (by omega) (by omega), hk 9 (by omega) (by omega), hk 10 (by omega) (by omega), hk 11 (by omega) (by omega), hk 12 (by omega) (by omega), cond_false]
  · obtain rfl | rfl | rfl | rfl | rfl | rfl | rfl | rfl | rfl | rfl | rfl | rfl : m = 1 ∨ m = 2 ∨ m = 3 ∨ m = 4 ∨ m = 5 ∨ m = 6 ∨ m = 7 ∨ m = 8 ∨ m = 9 ∨ m = 10 ∨ m = 11 ∨ m = 12 := by omega
    case inr.inl =>
      have e : r01_Days y 2 = (r01_Leap y).bind fun r => cond r (some (29 : Int)) (some (28 : Int)) := rfl
      rw [e, r01_Leap_eq, dim, leapI_eq]
      simp only [Option.bind_some]
      cases leapB y <;> rfl
    all_goals rfl

theorem r01_Valid_eq (y m d : Int) : r01_Valid (y, m, d) = some (decide (valid y m d)) := by
  simp only [r01_Valid, r01_Days_eq, Option.bind_some]
  by_cases hv : valid y m d
  · have hm := valid_month hv
    have hv' := hv
    obtain ⟨a1, a2, a3, a4⟩ := hv
    rw [dec_true (show y ≥ 1970 from a1), dec_true a2, dec_true (show m ≥ 1 from hm.1), dec_true hm.2, dec_true (show d ≥ 1 from a3), dec_true a4, dec_true hv']; rfl
  · rw [dec_false hv]
    by_cases a1 : y ≥ 1970
    · by_cases a2 : y ≤ 2240
      · by_cases a3 : m ≥ 1
        · by_cases a4 : m ≤ 12
          · by_cases a5 : d ≥ 1
            · rw [dec_true a1, dec_true a2, dec_true a3, dec_true a4, dec_true a5, dec_false (show ¬ d ≤ dim y m from fun h => hv ⟨a1, a2, a5, h⟩)]; rfl
            · rw [dec_true a1, dec_true a2, dec_true a3, dec_true a4, dec_false a5]; rfl
          · rw [dec_true a1, dec_true a2, dec_true a3, dec_false a4]; rfl
        · rw [dec_true a1, dec_true a2, dec_false a3]; rfl
      · rw [dec_true a1, dec_false a2]; rfl
    · rw [dec_false a1]; rfl

theorem Valid_eq' (y m d : Int) : civil_Valid (y, m, d) = some (decide (valid y m d)) := Valid_eq y m d

theorem r01_year_eq (y : Int) (h1 : 1969 ≤ y) (h2 : y ≤ 1000000000) : r01_year y = some (cnt y) := by
  simp only [r01_year]
  rw [w64_in (x := y - 1970) (by omega) (by omega), w64_in (x := y - 1969) (by omega) (by omega), w64_in (x := y - 1901) (by omega) (by omega), w64_in (x := y - 1601) (by omega) (by omega)]
  rw [tdiv_nn (show 0 ≤ y - 1969 by omega), tdiv_nn (show 0 ≤ y - 1901 by omega), tdiv_nn (show 0 ≤ y - 1601 by omega)]
  simp (disch := omega) only [w64_in]
  congr 1
  unfold cnt
  omega

theorem r01_Day_lp (y m d : Int) (hm : m ≤ 13) : ∀ (n : Nat) (s k : Int), 1 ≤ k → k + n = m → -1000000000000 ≤ s → s + 31 * n ≤ 1000000000000 → r01_Day_l0 s k y m d = some (s + cum y m - cum y k, y, m, d)
  | 0, s, k, hk, hn, _, _ => by
    rw [r01_Day_l0_eq]
    have : k = m := by omega
    subst this
    simp only [r01_Day_l0_step, dec_false (show ¬ k < k by omega), cond_false, lpK_inr]
    congr 2; omega
  | n + 1, s, k, hk, hn, h1, h2 => by
    rw [r01_Day_l0_eq]
    have hd := dim_range y k
    have hc := cum_succ y k hk (by omega)
    simp only [r01_Day_l0_step, r01_Days_eq, Option.bind_some, dec_true (show k < m by omega), cond_true, lpK_inl]
    rw [w64_in (x := s + dim y k) (by omega) (by omega), w64_in (x := k + 1) (by omega) (by omega)]
    rw [r01_Day_lp y m d hm n (s + dim y k) (k + 1) (by omega) (by omega) (by omega) (by omega)]
    congr 2; omega

theorem r01_Day_ok {y m d : Int} (hv : valid y m d) : r01_Day (y, m, d) = some (num y m d, 0) := by
  have hm := valid_month hv
  have hd := dim_range y m
  have hb : -1000000000 ≤ cnt y ∧ cnt y ≤ 1000000000 := by have := hv.1; have := hv.2.1; unfold cnt; omega
  have hc := cum_range y m
  obtain ⟨h1, h2, h3, h4⟩ := id hv
  simp only [r01_Day, r01_Valid_eq, dec_true hv, Option.bind_some, Bool.not_true, cond_false, r01_year_eq y (by omega) (by omega), r01_Day_lp y m d (by omega) (m - 1).toNat (cnt y) 1 (by omega) (by omega) (by omega) (by omega)]
  have : cum y 1 = 0 := rfl
  rw [w64_in (x := cnt y + cum y m - cum y 1 + d) (by omega) (by omega), w64_in (by omega) (by omega)]
  unfold num
  congr 2; omega
theorem r01_Weekday_eq (d : Int) : r01_Weekday d = civil_Weekday d := rfl

theorem r01_Nth_lpa (y m k w n e : Int) (hn0 : 0 ≤ n) (hn1 : n ≤ 1000000) (he6 : e ≤ 6) (hew : (n + e + 3) % 7 = w) :
    ∀ (j : Nat) (s : Int), 0 ≤ s → s + j = e → r01_Nth_l0 y m k w n (n + s) = some (y, m, k, n, n + e)
  | 0, s, hs, hj => by
    rw [r01_Nth_l0_eq]
    have : s = e := by omega
    subst this
    have hb : ((n + s + 3) % 7 != w) = false := by simp [hew]
    simp only [r01_Nth_l0_step, r01_Weekday_eq, Weekday_nn (n + s) (by omega), Option.bind_some, hb, cond_false, lpK_inr]
  | j + 1, s, hs, hj => by
    rw [r01_Nth_l0_eq]
    have hb : ((n + s + 3) % 7 != w) = true := by
      simp only [bne_iff_ne, ne_eq]; omega
    simp only [r01_Nth_l0_step, r01_Weekday_eq, Weekday_nn (n + s) (by omega), Option.bind_some, hb, cond_true, lpK_inl]
    rw [w64_in (x := n + s + 1) (by omega) (by omega), show n + s + 1 = n + (s + 1) by omega]
    exact r01_Nth_lpa y m k w n e hn0 hn1 he6 hew j (s + 1) (by omega) (by omega)

theorem r01_Nth_lpb (y m n t : Int) (hn0 : 0 ≤ n) (hn1 : n ≤ 1000000) (ht1 : t < n + dim y m) (ht2 : n + dim y m ≤ t + 7) (ht0 : -1000 ≤ t) :
    ∀ (j : Nat) (s : Int), s + 7 * j = t → -1000 ≤ s → r01_Nth_l2 y m n s = some t
  | 0, s, hs, _ => by
    have hd := dim_range y m
    rw [r01_Nth_l2_eq]
    have : s = t := by omega
    subst this
    simp only [r01_Nth_l2_step, r01_Days_eq, Option.bind_some]
    rw [w64_in (x := s + 7) (by omega) (by omega), w64_in (x := n + dim y m) (by omega) (by omega), dec_false (show ¬ s + 7 < n + dim y m by omega), cond_false, lpK_inr]
  | j + 1, s, hs, h1 => by
    have hd := dim_range y m
    rw [r01_Nth_l2_eq]
    simp only [r01_Nth_l2_step, r01_Days_eq, Option.bind_some]
    rw [w64_in (x := s + 7) (by omega) (by omega), w64_in (x := n + dim y m) (by omega) (by omega), dec_true (show s + 7 < n + dim y m by omega), cond_true, lpK_inl]
    exact r01_Nth_lpb y m n t hn0 hn1 ht1 ht2 ht0 j (s + 7) (by omega) (by omega)

theorem r01_Nth_ok (y m k w : Int) (h1 : 1970 ≤ y) (h2 : y ≤ 2240) (hm1 : 1 ≤ m) (hm2 : m ≤ 12) (hk1 : 1 ≤ k) (hk2 : k ≤ 5) (hw1 : 0 ≤ w) (hw2 : w ≤ 6) : r01_Nth y m k w = some (nth y m k w, 0) := by
  have hv := dim_valid1 y m h1 h2 hm1 hm2
  have hr := num_range hv
  have hd := dim_pos y m hm1 hm2
  have hd2 := dim_range y m
  simp only [r01_Nth, r01_Day_ok hv, Option.bind_some, bne_self_eq_false]
  rw [dec_false (show ¬ k < 1 by omega), dec_false (show ¬ k > 5 by omega), dec_false (show ¬ w < 0 by omega), dec_false (show ¬ w > 6 by omega)]
  simp only [cond_false]
  unfold nth
  generalize num y m 1 = n at *
  obtain ⟨e, he0, he6, hew, hee⟩ : ∃ e, 0 ≤ e ∧ e ≤ 6 ∧ (n + e + 3) % 7 = w ∧ n + (w - (n + 3) % 7 + 7) % 7 = n + e := ⟨(w - (n + 3) % 7 + 7) % 7, by omega, by omega, by omega, rfl⟩
  rw [hee]
  have hl := r01_Nth_lpa y m k w n e hr.1 (by omega) he6 hew e.toNat 0 (by omega) (by omega)
  rw [Int.add_zero] at hl
  simp only [hl, Option.bind_some]
  by_cases hk : k < 5
  · rw [dec_true hk, cond_true, w64_in (x := k - 1) (by omega) (by omega), w64_in (x := 7 * (k - 1)) (by omega) (by omega), w64_in (by omega) (by omega), if_neg (by omega)]
  · have hk5 : k = 5 := by omega
    subst hk5
    rw [dec_false hk, cond_false]
    by_cases hc : n + e + 7 * (5 - 1) ≥ n + dim y m
    · rw [r01_Nth_lpb y m n (n + e + 21) hr.1 (by omega) (by omega) (by omega) (by omega) 3 (n + e) (by omega) (by omega), if_pos hc]
      simp only [Option.bind_some]
      congr 2; omega
    · rw [r01_Nth_lpb y m n (n + e + 28) hr.1 (by omega) (by omega) (by omega) (by omega) 4 (n + e) (by omega) (by omega), if_neg hc]
      simp only [Option.bind_some]
      congr 2
end Go.Proofs.Pw

/- Chapter 4: what a sorted list of occurrences and the transitions hold. -/
open Go Go.Lft
namespace Go.Proofs.Pw

theorem insRev_mem {x y : Int × Int} : ∀ {l : TrL}, y ∈ insRev x l → y = x ∨ y ∈ l
  | [], h => by simp [insRev] at h; exact .inl h
  | z :: zs, h => by
    unfold insRev at h
    split at h
    · rcases List.mem_cons.1 h with rfl | h
      · exact .inr (by simp)
      · rcases insRev_mem h with h | h
        · exact .inl h
        · exact .inr (by simp [h])
    · rcases List.mem_cons.1 h with rfl | h
      · exact .inl rfl
      · exact .inr h

theorem isortRev_mem {y : Int × Int} : ∀ {l acc : TrL}, y ∈ isortRev l acc → y ∈ l ∨ y ∈ acc
  | [], _, h => .inr h
  | x :: xs, acc, h => by
    rcases isortRev_mem (l := xs) h with h | h
    · exact .inl (by simp [h])
    · rcases insRev_mem h with rfl | h
      · exact .inl (by simp)
      · exact .inr h

theorem isort_mem {y : Int × Int} {l : TrL} (h : y ∈ isort l) : y ∈ l := by
  rcases isortRev_mem (List.mem_reverse.1 h) with h | h
  · exact h
  · simp at h

theorem out_mem : ∀ (L : TrL) (now : Int) (i : Nat), i < (outT now L).length → ∃ x ∈ L, tat (outT now L) i + tof now (outT now L) i = x.1 ∧ tof now (outT now L) (i + 1) = x.2
  | [], _, i, hi => by simp [outT] at hi
  | x :: r, now, i, hi => by
    by_cases hx : x.2 = now
    · have e : outT now (x :: r) = outT now r := by simp [outT, hx]
      rw [e] at hi ⊢
      obtain ⟨y, hy, h⟩ := out_mem r now i hi
      exact ⟨y, by simp [hy], h⟩
    · have e : outT now (x :: r) = (x.1 - now, x.2) :: outT x.2 r := by simp [outT, hx]
      rw [e] at hi ⊢
      cases i with
      | zero => exact ⟨x, by simp, by show x.1 - now + now = x.1; omega, rfl⟩
      | succ i =>
        obtain ⟨y, hy, h1, h2⟩ := out_mem r x.2 i (by simpa using hi)
        refine ⟨y, by simp [hy], ?_, ?_⟩
        · cases i with
          | zero => exact h1
          | succ i => exact h1
        · exact h2

theorem occs_mem {x : Int × Int} {l : List Rule} (h : x ∈ occs l) : ∃ r ∈ l, ∃ j : Nat, (j : Int) ≤ r.2.1 - r.1 ∧ x = occ r (r.1 + (j : Int)) := by
  obtain ⟨r, hr, hx⟩ := List.mem_flatMap.1 h
  obtain ⟨i, hi, rfl⟩ := List.mem_map.1 hx
  have hi := List.mem_range.1 hi
  exact ⟨r, hr, i, by omega, rfl⟩
end Go.Proofs.Pw
