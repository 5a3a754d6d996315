/- Chapter 4: the reference's transitions, offsets and instants are those of the program. -/
import Derived.Test.YtielflihgdebiaaPC
open Go Go.Lft
namespace Go.Proofs.Pw

theorem r4in_t {n lo hi : Int} (h1 : lo ≤ n) (h2 : n ≤ hi) : r04_in n lo hi = some true := by
  simp only [r04_in]
  rw [dec_true (show n ≥ lo from h1), dec_true h2]; rfl
theorem r4in_f {n lo hi : Int} (h : ¬ (lo ≤ n ∧ n ≤ hi)) : r04_in n lo hi = some false := by
  simp only [r04_in]
  by_cases h1 : n ≥ lo
  · rw [dec_true h1, dec_false (fun h2 => h ⟨h1, h2⟩)]; rfl
  · rw [dec_false h1]; rfl

theorem r4right_ok {r : Rule} (h : ROk r) : r04_right r = some true := by
  simp only [r04_right, r4in_t h.y0 (show r.1 ≤ 2240 by have := h.y1; have := h.y2; omega), r4in_t h.y1 h.y2, r4in_t h.m0 h.m1, r4in_t h.k0 h.k1, r4in_t h.d0 h.d1, r4in_t h.s0 h.s1, r4in_t h.o0 h.o1, Option.bind_some, cond_true]

/-! The occurrences, one put in after the other. -/

theorem insRev_split (x : Int × Int) : ∀ l : TrL, insRev x l = l.takeWhile (fun y => decide (x.1 < y.1)) ++ x :: l.dropWhile (fun y => decide (x.1 < y.1))
  | [] => rfl
  | y :: ys => by
    unfold insRev
    by_cases h : x.1 < y.1
    · rw [if_pos h, insRev_split x ys]; simp [h]
    · rw [if_neg h]; simp [h]

theorem r4_l4 {rs : List Rule} {i y a b : Int} : ∀ (rp mid : TrL), rp.length + mid.length ≤ 100000 →
    r04_occurrences_l4 rs i y (rp.length : Int) a b (rp.reverse ++ mid) = some (rs, i, y, ((rp.dropWhile (fun z => decide (a < z.1))).length : Int), a, b, rp.reverse ++ mid)
  | [], mid, _ => by
    rw [r04_occurrences_l4_eq]
    simp only [r04_occurrences_l4_step]
    rw [dec_false (by simp), cond_false, lpK_inr]
    rfl
  | z :: zs, mid, hl => by
    have hL : ((z :: zs).reverse ++ mid).length = zs.length + 1 + mid.length := by simp; omega
    simp only [List.length_cons] at hl
    have g2 : ((z :: zs).reverse ++ mid).getD ((((zs.length + 1 : Nat) : Int) - 1).toNat) ((0 : Int), (0 : Int)) = z := by
      rw [show (((zs.length + 1 : Nat) : Int) - 1).toNat = zs.length by omega]
      simp
    rw [r04_occurrences_l4_eq]
    simp only [r04_occurrences_l4_step, List.length_cons]
    simp only [w64_in (x := ((zs.length + 1 : Nat) : Int) - 1) (by omega) (by omega), g2]
    rw [dec_true (show ((zs.length + 1 : Nat) : Int) > 0 by omega), inR_t (by omega) (by rw [hL]; omega)]
    simp only [cond_true]
    by_cases hc : a < z.1
    · rw [dec_true (show z.1 > a from hc)]
      simp only [cond_true, lpK_inl]
      have ih := r4_l4 (rs := rs) (i := i) (y := y) (a := a) (b := b) zs (z :: mid) (by simp; omega)
      have e : (z :: zs).reverse ++ mid = zs.reverse ++ z :: mid := by simp
      rw [e, show ((zs.length + 1 : Nat) : Int) - 1 = (zs.length : Int) by omega, ih]
      simp [hc]
    · rw [dec_false (show ¬ z.1 > a from hc)]
      simp only [cond_false, lpK_inr]
      simp [hc]

/-- Room made, and the new one laid in. -/
theorem over_ins (l : TrL) (x : Int × Int) {k : Nat} (hk : k ≤ l.length) : List.set (over (l ++ [x]) (k + 1) (List.drop k (l ++ [x]))) k x = l.take k ++ x :: l.drop k := by
  have h1 : (l ++ [x]).length = l.length + 1 := by simp
  unfold over
  rw [h1, List.drop_of_length_le (show (l ++ [x]).length ≤ k + 1 + (List.drop k (l ++ [x])).length by simp; omega), List.append_nil]
  have e1 : List.drop k (l ++ [x]) = List.drop k l ++ [x] := by rw [List.drop_append_of_le_length hk]
  rw [e1]
  have e2 : List.take (l.length + 1 - (k + 1)) (List.drop k l ++ [x]) = List.drop k l := by
    rw [List.take_append_of_le_length (by simp), List.take_of_length_le (by simp)]
  rw [e2]
  by_cases h : k < l.length
  · have e3 : List.take (k + 1) (l ++ [x]) = l.take k ++ [l[k]] := by
      rw [List.take_append_of_le_length (by omega), List.take_succ_eq_append_getElem h]
    rw [e3, List.append_assoc, List.set_append_right _ _ (by simp; omega)]
    simp [Nat.min_eq_left hk]
  · have hk' : k = l.length := by omega
    subst hk'
    have e3 : List.take (l.length + 1) (l ++ [x]) = l ++ [x] := List.take_of_length_le (by simp)
    rw [e3]
    simp

theorem r4_l2 {rs : List Rule} {i : Nat} (hi : i < rs.length) {r : Rule} (hr : rs[i] = r) (h : ROk r) : ∀ (n j : Nat) (acc : TrL), r.1 + (j : Int) + n = r.2.1 + 1 → acc.length + n ≤ 90000 →
    r04_occurrences_l2 rs (i : Int) (r.1 + (j : Int)) acc.reverse = some (rs, (i : Int), (isortRev ((List.range n).map fun (q : Nat) => occ r (r.1 + (j : Int) + (q : Int))) acc).reverse)
  | 0, j, acc, hj, _ => by
    have hg : rs.getD i ((0 : Int), ((0 : Int), ((0 : Int), ((0 : Int), ((0 : Int), ((0 : Int), (0 : Int))))))) = r := by simp [hi, hr]
    rw [r04_occurrences_l2_eq]
    simp only [r04_occurrences_l2_step]
    rw [inR_t (by omega) (by omega)]
    simp only [cond_true, Int.toNat_natCast, hg]
    rw [dec_false (by omega), cond_false, lpK_inr]
    rfl
  | n + 1, j, acc, hj, hl => by
    have hg : rs.getD i ((0 : Int), ((0 : Int), ((0 : Int), ((0 : Int), ((0 : Int), ((0 : Int), (0 : Int))))))) = r := by simp [hi, hr]
    have h0 := h.y0; have h2 := h.y2; have hs0 := h.s0; have hs1 := h.s1
    have hv := num_range (dim_valid1 (r.1 + (j : Int)) r.2.2.1 (by omega) (by omega) h.m0 h.m1)
    have hn := nth_range (w := r.2.2.2.2.1) (y := r.1 + (j : Int)) (by omega) (by omega) h.m0 h.m1 h.k0 h.k1
    have hd := dim_range (r.1 + (j : Int)) r.2.2.1
    rw [r04_occurrences_l2_eq]
    simp only [r04_occurrences_l2_step]
    rw [inR_t (by omega) (by omega)]
    simp only [cond_true, Int.toNat_natCast, hg]
    rw [dec_true (show r.1 + (j : Int) ≤ r.2.1 by omega), r01_Nth_ok _ _ _ _ (by omega) (by omega) h.m0 h.m1 h.k0 h.k1 h.d0 h.d1]
    simp only [cond_true, Option.bind_some]
    rw [w64_in (x := nth (r.1 + (j : Int)) r.2.2.1 r.2.2.2.1 r.2.2.2.2.1 * 86400) (by omega) (by omega), w64_in (x := nth (r.1 + (j : Int)) r.2.2.1 r.2.2.2.1 r.2.2.2.2.1 * 86400 + r.2.2.2.2.2.1) (by omega) (by omega)]
    have hl4 := r4_l4 (rs := rs) (i := (i : Int)) (y := r.1 + (j : Int)) (a := (occ r (r.1 + (j : Int))).1) (b := (occ r (r.1 + (j : Int))).2) acc [] (by simp; omega)
    rw [List.append_nil] at hl4
    rw [show Int.ofNat (List.length acc.reverse) = (acc.length : Int) by simp]
    rw [show r04_occurrences_l4 rs (i : Int) (r.1 + (j : Int)) (acc.length : Int) (nth (r.1 + (j : Int)) r.2.2.1 r.2.2.2.1 r.2.2.2.2.1 * 86400 + r.2.2.2.2.2.1) r.2.2.2.2.2.2 acc.reverse = _ from hl4]
    simp only [Option.bind_some]
    generalize hx : occ r (r.1 + (j : Int)) = x at *
    have hdl : (acc.dropWhile (fun z => decide (x.1 < z.1))).length ≤ acc.length := (List.dropWhile_sublist _).length_le
    generalize hD : acc.dropWhile (fun z => decide (x.1 < z.1)) = D at *
    have hlen1 : (acc.reverse ++ [(x.1, x.2)]).length = acc.length + 1 := by simp
    rw [dec_true (by simp [sizeMax]; omega)]
    simp only [cond_true]
    rw [w64_in (x := (D.length : Int) + 1) (by omega) (by omega), dec_true (show (0 : Int) ≤ (D.length : Int) + 1 by omega), dec_true (show (D.length : Int) + 1 ≤ Int.ofNat (acc.reverse ++ [(x.1, x.2)]).length by rw [hlen1]; show (D.length : Int) + 1 ≤ ((acc.length + 1 : Nat) : Int); omega),
      dec_true (show (0 : Int) ≤ (D.length : Int) by omega), dec_true (show (D.length : Int) ≤ Int.ofNat (acc.reverse ++ [(x.1, x.2)]).length by rw [hlen1]; show (D.length : Int) ≤ ((acc.length + 1 : Nat) : Int); omega)]
    simp only [Bool.and_self, cond_true, Int.toNat_natCast, show ((D.length : Int) + 1).toNat = D.length + 1 by omega]
    have hov : (over (acc.reverse ++ [(x.1, x.2)]) (D.length + 1) (List.drop D.length (acc.reverse ++ [(x.1, x.2)]))).length = acc.length + 1 := by
      unfold over
      simp
      omega
    rw [inR_t (by omega) (by rw [hov]; omega), over_ins acc.reverse (x.1, x.2) (by simpa using hdl)]
    simp only [cond_true]
    rw [w64_in (x := r.1 + (j : Int) + 1) (by omega) (by omega), lpK_inl]
    have hins : acc.reverse.take D.length ++ (x.1, x.2) :: acc.reverse.drop D.length = (insRev x acc).reverse := by
      have hsp := List.takeWhile_append_dropWhile (p := fun z : Int × Int => decide (x.1 < z.1)) (l := acc)
      rw [insRev_split, hD]
      rw [hD] at hsp
      generalize acc.takeWhile (fun z => decide (x.1 < z.1)) = T at hsp ⊢
      rw [← hsp]
      simp
    rw [hins]
    have ih := r4_l2 hi hr h n (j + 1) (insRev x acc) (by omega) (by rw [insRev_len]; omega)
    rw [show r.1 + (j : Int) + 1 = r.1 + ((j + 1 : Nat) : Int) by omega]
    refine ih.trans ?_
    have hmap : (List.range n).map (fun (q : Nat) => occ r (r.1 + ((j + 1 : Nat) : Int) + (q : Int))) = (List.range n).map ((fun (q : Nat) => occ r (r.1 + (j : Int) + (q : Int))) ∘ Nat.succ) := List.map_congr_left fun q _ => by
      simp only [Function.comp]
      congr 1
      omega
    rw [List.range_succ_eq_map, List.map_cons, List.map_map, hmap]
    simp [isortRev, hx]

theorem isortRev_app : ∀ (a b acc : TrL), isortRev (a ++ b) acc = isortRev b (isortRev a acc)
  | [], _, _ => rfl
  | x :: a, b, acc => by simp only [List.cons_append, isortRev]; exact isortRev_app a b _

theorem r4_l0 {rs : List Rule} (h : ∀ r ∈ rs, ROk r) (hlen : rs.length ≤ 100) : ∀ (n i : Nat) (acc : TrL), i + n = rs.length → acc.length ≤ 300 * i →
    r04_occurrences_l0 rs (i : Int) acc.reverse = some (isortRev (occs (rs.drop i)) acc).reverse
  | 0, i, acc, hi, _ => by
    rw [r04_occurrences_l0_eq]
    simp only [r04_occurrences_l0_step, show Int.ofNat (List.length rs) = (rs.length : Int) from rfl]
    rw [dec_false (by omega), cond_false, lpK_inr, List.drop_of_length_le (by omega)]
    rfl
  | n + 1, i, acc, hi, hl => by
    have hlt : i < rs.length := by omega
    have hr := h rs[i] (List.getElem_mem hlt)
    have h0 := hr.y0; have h1 := hr.y1; have h2 := hr.y2
    have hg : rs.getD i ((0 : Int), ((0 : Int), ((0 : Int), ((0 : Int), ((0 : Int), ((0 : Int), (0 : Int))))))) = rs[i] := by simp [hlt]
    have hl2 := r4_l2 hlt rfl hr (rs[i].2.1 - rs[i].1 + 1).toNat 0 acc (by omega) (by omega)
    rw [show rs[i].1 + ((0 : Nat) : Int) = rs[i].1 by omega] at hl2
    have ih := r4_l0 h hlen n (i + 1) (isortRev (occR rs[i]) acc) (by omega) (by rw [isortRev_len]; simp [occR]; omega)
    rw [r04_occurrences_l0_eq]
    simp only [r04_occurrences_l0_step, show Int.ofNat (List.length rs) = (rs.length : Int) from rfl]
    rw [dec_true (show (i : Int) < (rs.length : Int) by omega), inR_t (by omega) (by omega)]
    simp only [cond_true, Int.toNat_natCast, hg, hl2, Option.bind_some]
    rw [w64_in (by omega) (by omega), lpK_inl, List.drop_eq_getElem_cons hlt]
    refine ih.trans ?_
    show _ = some (isortRev (occR rs[i] ++ occs (rs.drop (i + 1))) acc).reverse
    rw [isortRev_app]

theorem r4occ_ok {rs : List Rule} (h : ∀ r ∈ rs, ROk r) (hlen : rs.length ≤ 100) : r04_occurrences rs = some (isort (occs rs)) := by
  have e := r4_l0 h hlen rs.length 0 [] (by omega) (by simp)
  simp only [r04_occurrences]
  rw [show r04_occurrences_l0 rs 0 [] = _ from e]
  rfl

theorem r4_cnt {rs : List Rule} (h : ∀ r ∈ rs, ROk r) (hlen : rs.length ≤ 100) (nm : ByteArray) (o : Int) : ∀ (n i : Nat) (s : Int), i + n = rs.length → 0 ≤ s → s ≤ 300 * i →
    r04_Transitions_l0 s (i : Int) nm o rs = some (.inr (s + ((occs (rs.drop i)).length : Int), nm, o, rs))
  | 0, i, s, hi, _, _ => by
    rw [r04_Transitions_l0_eq]
    simp only [r04_Transitions_l0_step, show Int.ofNat (List.length rs) = (rs.length : Int) from rfl]
    rw [dec_false (by omega), cond_false, lpK_inr, List.drop_of_length_le (by omega)]
    simp [occs]
  | n + 1, i, s, hi, hs0, hs1 => by
    have hlt : i < rs.length := by omega
    have hr := h rs[i] (List.getElem_mem hlt)
    have h0 := hr.y0; have h1 := hr.y1; have h2 := hr.y2
    have hg : rs.getD i ((0 : Int), ((0 : Int), ((0 : Int), ((0 : Int), ((0 : Int), ((0 : Int), (0 : Int))))))) = rs[i] := by simp [hlt]
    have ih := r4_cnt h hlen nm o n (i + 1) (s + (rs[i].2.1 - rs[i].1 + 1)) (by omega) (by omega) (by omega)
    have hrule : r04_right (rs[i].1, (rs[i].2.1, (rs[i].2.2.1, (rs[i].2.2.2.1, (rs[i].2.2.2.2.1, (rs[i].2.2.2.2.2.1, rs[i].2.2.2.2.2.2)))))) = some true := r4right_ok hr
    rw [r04_Transitions_l0_eq]
    simp only [r04_Transitions_l0_step, show Int.ofNat (List.length rs) = (rs.length : Int) from rfl]
    rw [dec_true (show (i : Int) < (rs.length : Int) by omega), inR_t (by omega) (by omega)]
    simp only [cond_true, Int.toNat_natCast, hg, hrule, Option.bind_some, Bool.not_true, cond_false]
    rw [w64_in (x := rs[i].2.1 - rs[i].1) (by omega) (by omega), w64_in (x := rs[i].2.1 - rs[i].1 + 1) (by omega) (by omega), w64_in (x := s + (rs[i].2.1 - rs[i].1 + 1)) (by omega) (by omega), w64_in (x := (i : Int) + 1) (by omega) (by omega), lpK_inl]
    refine ih.trans ?_
    rw [List.drop_eq_getElem_cons hlt]
    have : ((occs (rs[i] :: rs.drop (i + 1))).length : Int) = (rs[i].2.1 - rs[i].1 + 1) + ((occs (rs.drop (i + 1))).length : Int) := by
      have e1 : (occR rs[i]).length = (rs[i].2.1 - rs[i].1 + 1).toNat := by simp [occR]
      show ((occR rs[i] ++ occs (rs.drop (i + 1))).length : Int) = _
      rw [List.length_append, e1]; omega
    rw [this]
    congr 3; omega

theorem r4_lp (L : TrL) (hL : L.length ≤ 1000) : ∀ (n i : Nat) (now : Int) (acc : TrL), i + n = L.length → -64800 ≤ now → now ≤ 64800 → acc.length ≤ i → (∀ x ∈ acc, 0 ≤ x.1 ∧ x.1 ≤ 8589934592) → Good now (acc.getLast?.map (·.1)) (L.drop i) →
    r04_Transitions_l2 now (i : Int) acc L = some (.inr (acc ++ outT now (L.drop i)))
  | 0, i, now, acc, hi, _, _, _, _, _ => by
    rw [r04_Transitions_l2_eq]
    simp only [r04_Transitions_l2_step, show Int.ofNat (List.length L) = (L.length : Int) from rfl]
    rw [dec_false (by omega), cond_false, lpK_inr, List.drop_of_length_le (by omega)]
    simp [outT]
  | n + 1, i, now, acc, hi, hn0, hn1, hal, hacc, hg => by
    have hlt : i < L.length := by omega
    rw [List.drop_eq_getElem_cons hlt] at hg ⊢
    have hgd : L.getD i ((0 : Int), (0 : Int)) = L[i] := by simp [hlt]
    rw [r04_Transitions_l2_eq]
    simp only [r04_Transitions_l2_step, show Int.ofNat (List.length L) = (L.length : Int) from rfl]
    rw [dec_true (show (i : Int) < (L.length : Int) by omega), inR_t (by omega) (by omega)]
    simp only [cond_true, Int.toNat_natCast, hgd]
    generalize L[i] = x at *
    rw [w64_in (x := (i : Int) + 1) (by omega) (by omega)]
    simp only [Good] at hg
    by_cases hx : x.2 = now
    · rw [if_pos hx] at hg
      rw [beq_t hx]
      simp only [cond_true, lpK_inl, outT]
      rw [if_pos hx]
      exact r4_lp L hL n (i + 1) now acc (by omega) hn0 hn1 (by omega) hacc hg
    · rw [if_neg hx] at hg
      obtain ⟨⟨g1, g2, g3, g4, g5, g6, g7⟩, g8⟩ := hg
      rw [beq_f hx, w64_in (x := x.1 - now) (by omega) (by omega), w64_in (x := x.2 - now) (by omega) (by omega)]
      simp only [cond_false, r4in_t (show (-86399 : Int) ≤ x.2 - now by omega) (show x.2 - now ≤ 86399 by omega), r4in_t (show (0 : Int) ≤ x.1 - now by omega) (show x.1 - now ≤ 8589934592 by omega), Option.bind_some, Bool.not_true, show Int.ofNat (List.length acc) = (acc.length : Int) from rfl]
      have hnext := r4_lp L hL n (i + 1) x.2 (acc ++ [(x.1 - now, x.2)]) (by omega) g6 g7 (by simp; omega)
        (fun y hy => by
          rcases List.mem_append.1 hy with hy | hy
          · exact hacc y hy
          · simp at hy; subst hy; exact ⟨by show (0 : Int) ≤ x.1 - now; omega, by show x.1 - now ≤ 8589934592; omega⟩) (by simpa using g8)
      have hout : outT now (x :: L.drop (i + 1)) = (x.1 - now, x.2) :: outT x.2 (L.drop (i + 1)) := by simp [outT, hx]
      rw [hout]
      rw [List.append_assoc] at hnext
      rw [w64_in (x := (acc.length : Int) - 1) (by omega) (by omega)]
      by_cases ha : acc = []
      · subst ha
        simp only [List.length_nil]
        rw [show decide (((0 : Nat) : Int) > 0) = false from rfl]
        simp only [cond_false]
        rw [dec_true (by simp [sizeMax])]
        simp only [cond_true, lpK_inl]
        exact hnext
      · have hpos : 0 < acc.length := List.length_pos_iff.2 ha
        have hlast : acc.getLast? = some (acc.getD (acc.length - 1) (0, 0)) := by
          rw [List.getLast?_eq_getElem?, List.getD_eq_getElem?_getD, List.getElem?_eq_getElem (show acc.length - 1 < acc.length by omega)]; rfl
        rw [hlast] at g5
        have g5 : (acc.getD (acc.length - 1) ((0 : Int), (0 : Int))).1 + 604800 ≤ x.1 - now := g5 _ rfl
        have hb := hacc (acc.getD (acc.length - 1) (0, 0)) (List.mem_of_getLast? hlast)
        rw [inR_t (by omega) (by omega), dec_true (show (acc.length : Int) > 0 by omega), show ((acc.length : Int) - 1).toNat = acc.length - 1 by omega]
        simp only [cond_true]
        rw [w64_in (by omega) (by omega), dec_false (show ¬ x.1 - now - (acc.getD (acc.length - 1) ((0 : Int), (0 : Int))).1 < 604800 by omega), dec_true (by simp [sizeMax]; omega)]
        simp only [cond_true, cond_false, lpK_inl]
        exact hnext

theorem r4tab {nm : ByteArray} {o : Int} {rs : List Rule} (h : ∀ r ∈ rs, ROk r) (ho0 : -64800 ≤ o) (ho1 : o ≤ 64800) (hlen : rs.length ≤ 16) (hn : (occs rs).length ≤ 640) (hg : Good o none (isort (occs rs))) :
    r04_Transitions (nm, (o, rs)) = some (outT o (isort (occs rs)), 0) := by
  have hl : (isort (occs rs)).length ≤ 1000 := by simp [isort, isortRev_len]; omega
  have e0 := r4_cnt h (by omega) nm o rs.length 0 0 (by omega) (by omega) (by omega)
  rw [List.drop_zero] at e0
  have e2 := r4_lp (isort (occs rs)) hl (isort (occs rs)).length 0 o [] (by omega) ho0 ho1 (by simp) (by simp) hg
  rw [List.drop_zero] at e2
  simp only [r04_Transitions, r4in_t ho0 ho1, Option.bind_some, Bool.not_true, cond_false, show Int.ofNat (List.length rs) = (rs.length : Int) from rfl]
  rw [dec_false (show ¬ (rs.length : Int) > 16 by omega), cond_false, show r04_Transitions_l0 0 0 nm o rs = _ from e0]
  simp only [Option.bind_some, sumC_inr]
  rw [dec_false (by omega), cond_false, r4occ_ok h (by omega)]
  simp only [Option.bind_some]
  rw [show r04_Transitions_l2 o 0 [] (isort (occs rs)) = _ from e2]
  rfl

/-- A zone's table in the reference. -/
def Z4 (z : ByteArray × (Int × List Rule)) (l : TrL) : Prop := r04_Transitions z = some (l, 0) ∧ TOk z.2.1 l

theorem MZ.r4 {o : Int} {rs : List Rule} (h : MZ o rs) (nm : ByteArray) : Z4 (nm, (o, rs)) (outT o (isort (occs rs))) := by
  have ht := h.tab nm
  refine ⟨r4tab h.ok (by have := h.o0; omega) (by have := h.o1; omega) ?_ ?_ h.good, ht.2⟩
  · have := h.len; omega
  · have := h.few; omega
end Go.Proofs.Pw

/- Chapter 4: the reference's answers for right zones. -/
open Go Go.Lft
namespace Go.Proofs.Pw

section
variable {o : Int} {l : TrL} (h : TOk o l)
include h

theorem r4_off_lp {t : Int} {k : Nat} (hk : k ≤ l.length) (h1 : frm l k ≤ t) (h2 : t < frm l (k + 1)) : ∀ (n i : Nat), i + n = k → r04_offset_l0 l t (tof o l i) (i : Int) = some (tof o l k)
  | 0, i, hi => by
    have hi : i = k := by omega
    subst hi
    have hlen := h.len
    rw [r04_offset_l0_eq]
    simp only [r04_offset_l0_step, show Int.ofNat (List.length l) = (l.length : Int) from rfl]
    by_cases hlt : i < l.length
    · have e : frm l (i + 1) = tat l i := frm_s hlt
      rw [inR_t (by omega) (by omega), dec_true (show (i : Int) < (l.length : Int) by omega)]
      simp only [Bool.true_or, cond_true, Int.toNat_natCast]
      rw [dec_false (show ¬ (l.getD i ((0 : Int), (0 : Int))).1 ≤ t by show ¬ tat l i ≤ t; omega), cond_false, lpK_inr]
    · rw [dec_false (show ¬ (i : Int) < (l.length : Int) by omega)]
      simp only [Bool.not_false, Bool.or_true, cond_true, cond_false, lpK_inr]
  | n + 1, i, hi => by
    have hlen := h.len
    have hlt : i < l.length := by omega
    have e : frm l (i + 1) = tat l i := frm_s hlt
    have hle := h.frm_le (i := i + 1) (j := k) (by omega) (by omega)
    rw [r04_offset_l0_eq]
    simp only [r04_offset_l0_step, show Int.ofNat (List.length l) = (l.length : Int) from rfl]
    rw [inR_t (by omega) (by omega), dec_true (show (i : Int) < (l.length : Int) by omega)]
    simp only [Bool.true_or, cond_true, Int.toNat_natCast]
    rw [dec_true (show (l.getD i ((0 : Int), (0 : Int))).1 ≤ t by show tat l i ≤ t; omega), cond_true, w64_in (by omega) (by omega), lpK_inl]
    exact r4_off_lp hk h1 h2 n (i + 1) (by omega)

theorem r4_offset {nm : ByteArray} {rs : List Rule} {t : Int} {k : Nat} (hk : k ≤ l.length) (h1 : frm l k ≤ t) (h2 : t < frm l (k + 1)) : r04_offset (nm, (o, rs)) l t = some (tof o l k) := by
  have := r4_off_lp h hk h1 h2 k 0 (by omega)
  simp only [r04_offset]
  rw [show r04_offset_l0 l t o 0 = _ from this]
  rfl

/-- The instants of a local time, piece by piece. -/
def solsF (o : Int) (l : TrL) (s : Int) : Nat → Nat → List Int
  | _, 0 => []
  | j, n + 1 => (if Sol o l s j then [s - tof o l j] else []) ++ solsF o l s (j + 1) n
def sols (o : Int) (l : TrL) (s : Int) : List Int := solsF o l s 0 (l.length + 1)

omit h in
theorem solsF_len (s : Int) : ∀ n j, (solsF o l s j n).length ≤ n
  | 0, _ => by simp [solsF]
  | n + 1, j => by
    have := solsF_len s n (j + 1)
    simp only [solsF]
    split <;> simp <;> omega

omit h in
theorem cond_sol {s : Int} {j : Nat} : (cond (decide (s - tof o l j ≥ frm l j)) (decide (s - tof o l j < frm l (j + 1))) false) = decide (Sol o l s j) := by
  by_cases h1 : frm l j ≤ s - tof o l j
  · rw [dec_true (show s - tof o l j ≥ frm l j from h1), cond_true]
    by_cases h2 : s - tof o l j < frm l (j + 1)
    · rw [dec_true h2, dec_true (show Sol o l s j from ⟨h1, h2⟩)]
    · rw [dec_false h2, dec_false (fun hs : Sol o l s j => h2 hs.2)]
  · rw [dec_false (show ¬ s - tof o l j ≥ frm l j from h1), cond_false, dec_false (fun hs : Sol o l s j => h1 hs.1)]

theorem r4_from_lp {nm : ByteArray} {rs : List Rule} {d c : Int} (hd : -1000000 ≤ d) (hd2 : d ≤ 1000000) (hc : 0 ≤ c) (hc2 : c ≤ 86399) : ∀ (n j : Nat) (acc : List Int), j + n = l.length + 1 → acc.length ≤ j →
    r04_FromLocal_l0 ((j : Int) - 1) nm o rs d c l acc = some (acc ++ solsF o l (d * 86400 + c) j n)
  | 0, j, acc, hj, _ => by
    rw [r04_FromLocal_l0_eq]
    simp only [r04_FromLocal_l0_step, show Int.ofNat (List.length l) = (l.length : Int) from rfl]
    rw [dec_false (by omega), cond_false, lpK_inr]
    simp [solsF]
  | n + 1, j, acc, hj, ha => by
    have hlen := h.len
    have o1 := h.of0 j (by omega); have o2 := h.of1 j (by omega)
    have key : ∀ A : Option ((Int × ByteArray × Int × List Rule × Int × Int × TrL × List Int) ⊕ List Int),
        A = (cond (decide (Sol o l (d * 86400 + c) j)) (some (.inl ((j : Int), nm, o, rs, d, c, l, acc ++ [d * 86400 + c - tof o l j]))) (some (.inl ((j : Int), nm, o, rs, d, c, l, acc)))) →
        lpK A (fun h => r04_FromLocal_l0 h.1 h.2.1 h.2.2.1 h.2.2.2.1 h.2.2.2.2.1 h.2.2.2.2.2.1 h.2.2.2.2.2.2.1 h.2.2.2.2.2.2.2) = some (acc ++ solsF o l (d * 86400 + c) j (n + 1)) := by
      intro A hA
      rw [hA]
      have ih : ∀ acc' : List Int, acc'.length ≤ j + 1 → r04_FromLocal_l0 (j : Int) nm o rs d c l acc' = some (acc' ++ solsF o l (d * 86400 + c) (j + 1) n) := fun acc' h' => by
        have := r4_from_lp (nm := nm) (rs := rs) hd hd2 hc hc2 n (j + 1) acc' (by omega) h'
        rwa [show ((j + 1 : Nat) : Int) - 1 = (j : Int) by omega] at this
      by_cases hs : Sol o l (d * 86400 + c) j
      · rw [dec_true hs, cond_true, lpK_inl]
        refine (ih (acc ++ [d * 86400 + c - tof o l j]) (by simp; omega)).trans ?_
        simp [solsF, hs]
      · rw [dec_false hs, cond_false, lpK_inl]
        refine (ih acc (by omega)).trans ?_
        simp [solsF, hs]
    rw [r04_FromLocal_l0_eq]
    refine key _ ?_
    simp only [r04_FromLocal_l0_step, show Int.ofNat (List.length l) = (l.length : Int) from rfl]
    rw [dec_true (show (j : Int) - 1 < (l.length : Int) by omega)]
    simp only [show (j : Int) - 1 + 1 = (j : Int) by omega, w64_in (x := (j : Int)) (by omega) (by omega), Int.toNat_natCast]
    have hsz : decide (acc.length + [d * 86400 + c - tof o l j].length ≤ sizeMax) = true := dec_true (by simp [sizeMax]; omega)
    rw [w64_in (x := d * 86400) (by omega) (by omega), w64_in (x := d * 86400 + c) (by omega) (by omega)]
    have hcs := cond_sol (o := o) (l := l) (s := d * 86400 + c) (j := j)
    cases j with
    | zero =>
      have ht0 : tof o l 0 = o := rfl
      have hf0 : frm l 0 = 0 := rfl
      rw [dec_false (show ¬ ((0 : Nat) : Int) - 1 ≥ 0 by omega)]
      rw [ht0] at o1 o2 hsz hcs ⊢
      rw [hf0] at hcs
      simp only [cond_true, cond_false, w64_in (x := d * 86400 + c - o) (by omega) (by omega)]
      by_cases hl0 : 0 < l.length
      · have e : frm l (0 + 1) = tat l 0 := frm_s hl0
        rw [e] at hcs
        rw [dec_true (show ((0 : Nat) : Int) < (l.length : Int) by omega), inR_t (by omega) (by omega)]
        simp only [cond_true]
        rw [show (l.getD 0 ((0 : Int), (0 : Int))).1 = tat l 0 from rfl, hcs, hsz]
        rfl
      · have hl0' : l.length = 0 := by omega
        have e : frm l (0 + 1) = 8589934593 := by have := frm_end (l := l); rwa [hl0'] at this
        rw [e] at hcs
        rw [dec_false (show ¬ ((0 : Nat) : Int) < (l.length : Int) by omega)]
        simp only [cond_false]
        rw [hcs, hsz]
        rfl
    | succ i =>
      have hil : i < l.length := by omega
      have ht0 : tof o l (i + 1) = (l.getD i ((0 : Int), (0 : Int))).2 := rfl
      have hf0 : frm l (i + 1) = (l.getD i ((0 : Int), (0 : Int))).1 := frm_s hil
      rw [show ((i + 1 : Nat) : Int) - 1 = (i : Int) by omega, dec_true (show (i : Int) ≥ 0 by omega), inR_t (by omega) (by omega)]
      simp only [cond_true, Int.toNat_natCast, ← ht0, ← hf0]
      rw [w64_in (x := d * 86400 + c - tof o l (i + 1)) (by omega) (by omega)]
      by_cases hl0 : i + 1 < l.length
      · have e : frm l (i + 1 + 1) = (l.getD (i + 1) ((0 : Int), (0 : Int))).1 := frm_s hl0
        rw [dec_true (show ((i + 1 : Nat) : Int) < (l.length : Int) by omega), inR_t (by omega) (by omega)]
        simp only [cond_true, ← e]
        rw [hcs, hsz]
        rfl
      · have e : frm l (i + 1 + 1) = 8589934593 := by have := frm_end (l := l); rwa [show l.length + 1 = i + 1 + 1 by omega] at this
        rw [dec_false (show ¬ ((i + 1 : Nat) : Int) < (l.length : Int) by omega)]
        rw [e] at hcs
        simp only [cond_false]
        rw [hcs, hsz]
        rfl

theorem r4_first_lp {nm : ByteArray} {rs : List Rule} {d c : Int} (hd : -1000000 ≤ d) (hd2 : d ≤ 1000000) (hc : 0 ≤ c) (hc2 : c ≤ 86399) {k : Nat} (hk : k ≤ l.length) (hks : d * 86400 + c - tof o l k < frm l (k + 1))
    (hb : ∀ j, j < k → frm l (j + 1) ≤ d * 86400 + c - tof o l j) : ∀ (n j : Nat), j + n = k → r04_First_l0 ((j : Int) - 1) nm o rs d c l = some (.inl (max (frm l k) (d * 86400 + c - tof o l k), 0))
  | n, j, hj => by
    have hlen := h.len
    have hjl : j ≤ l.length := by omega
    have o1 := h.of0 j hjl; have o2 := h.of1 j hjl
    have hlt := h.frm_lt hjl
    have key : ∀ A : Option ((Int × ByteArray × Int × List Rule × Int × Int × TrL) ⊕ ((Int × Int) ⊕ Unit)),
        A = (cond (decide (max (frm l j) (d * 86400 + c - tof o l j) < frm l (j + 1))) (some (.inr (.inl (max (frm l j) (d * 86400 + c - tof o l j), 0)))) (some (.inl ((j : Int), nm, o, rs, d, c, l)))) →
        lpK A (fun h => r04_First_l0 h.1 h.2.1 h.2.2.1 h.2.2.2.1 h.2.2.2.2.1 h.2.2.2.2.2.1 h.2.2.2.2.2.2) = some (.inl (max (frm l k) (d * 86400 + c - tof o l k), 0)) := by
      intro A hA
      rw [hA]
      cases n with
      | zero =>
        have hjk : j = k := by omega
        subst hjk
        rw [dec_true (by omega), cond_true, lpK_inr]
      | succ n =>
        have := hb j (by omega)
        rw [dec_false (by omega), cond_false, lpK_inl]
        have ih := r4_first_lp (nm := nm) (rs := rs) hd hd2 hc hc2 hk hks hb n (j + 1) (by omega)
        rwa [show ((j + 1 : Nat) : Int) - 1 = (j : Int) by omega] at ih
    rw [r04_First_l0_eq]
    refine key _ ?_
    simp only [r04_First_l0_step, show Int.ofNat (List.length l) = (l.length : Int) from rfl]
    rw [dec_true (show (j : Int) - 1 < (l.length : Int) by omega)]
    simp only [show (j : Int) - 1 + 1 = (j : Int) by omega, w64_in (x := (j : Int)) (by omega) (by omega), Int.toNat_natCast]
    rw [w64_in (x := d * 86400) (by omega) (by omega), w64_in (x := d * 86400 + c) (by omega) (by omega)]
    have hmx : ∀ a b : Int, (if a > b then a else b) = max b a := fun a b => by omega
    clear key
    cases j with
    | zero =>
      have ht0 : tof o l 0 = o := rfl
      have hf0 : frm l 0 = 0 := rfl
      rw [dec_false (show ¬ ((0 : Nat) : Int) - 1 ≥ 0 by omega)]
      rw [ht0] at o1 o2 ⊢
      rw [hf0]
      simp only [cond_true, cond_false, w64_in (x := d * 86400 + c - o) (by omega) (by omega), hmx]
      by_cases hl0 : 0 < l.length
      · have e : frm l (0 + 1) = tat l 0 := frm_s hl0
        rw [e]
        rw [dec_true (show ((0 : Nat) : Int) < (l.length : Int) by omega), inR_t (by omega) (by omega)]
        rfl
      · have hl0' : l.length = 0 := by omega
        have e : frm l (0 + 1) = 8589934593 := by have := frm_end (l := l); rwa [hl0'] at this
        rw [e]
        rw [dec_false (show ¬ ((0 : Nat) : Int) < (l.length : Int) by omega)]
        rfl
    | succ i =>
      have hil : i < l.length := by omega
      have ht0 : tof o l (i + 1) = (l.getD i ((0 : Int), (0 : Int))).2 := rfl
      have hf0 : frm l (i + 1) = (l.getD i ((0 : Int), (0 : Int))).1 := frm_s hil
      rw [show ((i + 1 : Nat) : Int) - 1 = (i : Int) by omega, dec_true (show (i : Int) ≥ 0 by omega), inR_t (by omega) (by omega)]
      simp only [cond_true, Int.toNat_natCast, ← ht0, ← hf0]
      rw [w64_in (x := d * 86400 + c - tof o l (i + 1)) (by omega) (by omega)]
      simp only [hmx]
      by_cases hl0 : i + 1 < l.length
      · have e : frm l (i + 1 + 1) = (l.getD (i + 1) ((0 : Int), (0 : Int))).1 := frm_s hl0
        rw [dec_true (show ((i + 1 : Nat) : Int) < (l.length : Int) by omega), inR_t (by omega) (by omega)]
        simp only [cond_true, ← e]
      · have e : frm l (i + 1 + 1) = 8589934593 := by have := frm_end (l := l); rwa [show l.length + 1 = i + 1 + 1 by omega] at this
        rw [dec_false (show ¬ ((i + 1 : Nat) : Int) < (l.length : Int) by omega), e]
        rfl
end

theorem r4local_ok {t o : Int} (h1 : -864000 ≤ t + o) (h2 : t + o ≤ 1000000000000) : r04_local t o = some ((t + o) / 86400, (t + o) % 86400) := by
  simp only [r04_local]
  rw [w64_in (x := t + o) (by omega) (by omega), w64_in (x := t + o + 864000) (by omega) (by omega), tdiv_nn (by omega), tmod_nn (by omega), w64_in (x := (t + o + 864000) / 86400) (by omega) (by omega), w64_in (by omega) (by omega)]
  congr 2 <;> omega

section
variable {z : ByteArray × (Int × List Rule)} {l : TrL} (h : Z4 z l)
include h

theorem r4Off_ok {t : Int} {k : Nat} (h0 : 0 ≤ t) (h1 : t ≤ 8589934592) (hk : k ≤ l.length) (hk1 : frm l k ≤ t) (hk2 : t < frm l (k + 1)) : r04_OffsetAt z t = some (tof z.2.1 l k, 0) := by
  simp only [r04_OffsetAt, show r04_Transitions (z.1, (z.2.1, z.2.2)) = _ from h.1, Option.bind_some, bne_self_eq_false, cond_false, r4in_t h0 h1, Bool.not_true, r4_offset h.2 hk hk1 hk2]

theorem r4ToL_ok {t : Int} {k : Nat} (h0 : 0 ≤ t) (h1 : t ≤ 8589934592) (hk : k ≤ l.length) (hk1 : frm l k ≤ t) (hk2 : t < frm l (k + 1)) : r04_ToLocal z t = some (((t + tof z.2.1 l k) / 86400, (t + tof z.2.1 l k) % 86400), 0) := by
  have o1 := h.2.of0 k hk; have o2 := h.2.of1 k hk
  simp only [r04_ToLocal, show r04_OffsetAt (z.1, (z.2.1, z.2.2)) t = _ from r4Off_ok h h0 h1 hk hk1 hk2, Option.bind_some, bne_self_eq_false, cond_false, r4local_ok (show -864000 ≤ t + tof z.2.1 l k by omega) (by omega)]

omit h in
theorem r4small_ok {d : Int} (h1 : -2 ≤ d) (h2 : d ≤ 99422) : r04_small d = some true := by
  simp only [r04_small, r4in_t h1 h2, Option.bind_some]

theorem r4From_ok {d c : Int} (hd : -2 ≤ d) (hd2 : d ≤ 99422) (hc : 0 ≤ c) (hc2 : c ≤ 86399) : r04_FromLocal z (d, c) = some (sols z.2.1 l (d * 86400 + c), 0) := by
  have := r4_from_lp h.2 (nm := z.1) (rs := z.2.2) (show -1000000 ≤ d by omega) (by omega) hc hc2 (l.length + 1) 0 [] (by omega) (by simp)
  simp only [r04_FromLocal, show r04_Transitions (z.1, (z.2.1, z.2.2)) = _ from h.1, Option.bind_some, bne_self_eq_false, cond_false, r4in_t hc hc2, Bool.not_true, r4small_ok hd hd2]
  rw [show r04_FromLocal_l0 (-1) z.1 z.2.1 z.2.2 d c l [] = _ from this]
  rfl

theorem r4First_ok {d c : Int} (hd : -2 ≤ d) (hd2 : d ≤ 99422) (hc : 0 ≤ c) (hc2 : c ≤ 86399) {k : Nat} (hk : k ≤ l.length) (hks : d * 86400 + c - tof z.2.1 l k < frm l (k + 1))
    (hb : ∀ j, j < k → frm l (j + 1) ≤ d * 86400 + c - tof z.2.1 l j) : r04_First z (d, c) = some (max (frm l k) (d * 86400 + c - tof z.2.1 l k), 0) := by
  have := r4_first_lp h.2 (nm := z.1) (rs := z.2.2) (show -1000000 ≤ d by omega) (by omega) hc hc2 hk hks hb k 0 (by omega)
  simp only [r04_First, show r04_Transitions (z.1, (z.2.1, z.2.2)) = _ from h.1, Option.bind_some, bne_self_eq_false, cond_false, r4in_t hc hc2, Bool.not_true, r4small_ok hd hd2]
  rw [dec_false (show ¬ d < -2 by omega), cond_false, show r04_First_l0 (-1) z.1 z.2.1 z.2.2 d c l = _ from this]
  rfl
end
end Go.Proofs.Pw
