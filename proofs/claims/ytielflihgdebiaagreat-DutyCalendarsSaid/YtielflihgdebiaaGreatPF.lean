/- Chapter 4: the reference's transitions, offsets and instants are those of the program. -/
import Derived.Test.YtielflihgdebiaaGreatPE
open Go Go.Lft
namespace Go.Proofs.Pw

theorem r4in_t {n lo hi : Int} (h1 : lo ≤ n) (h2 : n ≤ hi) : r04_in n lo hi = some true := by
  simp only [r04_in]
  rw [dec_true (show n ≥ lo from h1), dec_true h2]; rfl
theorem r4right_ok {r : Rule} (h : ROk r) : r04_right r = some true := by
  simp only [r04_right, r4in_t h.y0 (show r.1 ≤ 2240 by have := h.y1; have := h.y2; omega), r4in_t h.y1 h.y2, r4in_t h.m0 h.m1, r4in_t h.k0 h.k1, r4in_t h.d0 h.d1, r4in_t h.s0 h.s1, r4in_t h.o0 h.o1, Option.bind_some, cond_true]

theorem insRev_split (x : Int × Int) : ∀ l : TrL, insRev x l = l.takeWhile (fun y => decide (x.1 < y.1)) ++ x :: l.dropWhile (fun y => decide (x.1 < y.1))
  | [] => rfl
  | y :: ys => by
    unfold insRev
    by_cases h : x.1 < y.1
    · rw [if_pos h, insRev_split x ys]; simp [h]
    · rw [if_neg h]; simp [h]

theorem r4_l4 {rs : List Rule} {i y a b : Int} : ∀ (rp mid : TrL), rp.length + mid.length ≤ 100000 →
    r04_occurrences_l4 rs i y (rp.length : Int) a b (rp.reverse ++ mid) = some (rs, i, y, ((rp.dropWhile (fun z => decide (a < z.1))).length : Int), a, b, rp.reverse ++ mid)
  | [], mid, _ => by
    rw [r04_occurrences_l4_eq]
    simp only [r04_occurrences_l4_step]
    rw [dec_false (by simp), cond_false, lpK_inr]
    rfl
  | z :: zs, mid, hl => by
    have hL : ((z :: zs).reverse ++ mid).length = zs.length + 1 + mid.length := by simp; omega
    simp only [List.length_cons] at hl
    have g2 : ((z :: zs).reverse ++ mid).getD ((((zs.length + 1 : Nat) : Int) - 1).toNat) ((0 : Int), (0 : Int)) = z := by
      rw [show (((zs.length + 1 : Nat) : Int) - 1).toNat = zs.length by omega]
      simp
    rw [r04_occurrences_l4_eq]
    simp only [r04_occurrences_l4_step, List.length_cons]
    simp only [w64_in (x := ((zs.length + 1 : Nat) : Int) - 1) (by omega) (by omega), g2]
    rw [dec_true (show ((zs.length + 1 : Nat) : Int) > 0 by omega), inR_t (by omega) (by rw [hL]; omega)]
    simp only [cond_true]
    by_cases hc : a < z.1
    · rw [dec_true (show z.1 > a from hc)]
      simp only [cond_true, lpK_inl]
      have ih := r4_l4 (rs := rs) (i := i) (y := y) (a := a) (b := b) zs (z :: mid) (by simp; omega)
      have e : (z :: zs).reverse ++ mid = zs.reverse ++ z :: mid := by simp
      rw [e, show ((zs.length + 1 : Nat) : Int) - 1 = (zs.length : Int) by omega, ih]
      simp [hc]
    · rw [dec_false (show ¬ z.1 > a from hc)]
      simp only [cond_false, lpK_inr]
      simp [hc]

theorem over_ins (l : TrL) (x : Int × Int) {k : Nat} (hk : k ≤ l.length) : List.set (over (l ++ [x]) (k + 1) (List.drop k (l ++ [x]))) k x = l.take k ++ x :: l.drop k := by
  have h1 : (l ++ [x]).length = l.length + 1 := by simp
  unfold over
  rw [h1, List.drop_of_length_le (show (l ++ [x]).length ≤ k + 1 + (List.drop k (l ++ [x])).length by simp; omega), List.append_nil]
  have e1 : List.drop k (l ++ [x]) = List.drop k l ++ [x] := by rw [List.drop_append_of_le_length hk]
  rw [e1]
  have e2 : List.take (l.length + 1 - (k + 1)) (List.drop k l ++ [x]) = List.drop k l := by
    rw [List.take_append_of_le_length (by simp), List.take_of_length_le (by simp)]
  rw [e2]
  by_cases h : k < l.length
  · have e3 : List.take (k + 1) (l ++ [x]) = l.take k ++ [l[k]] := by
      rw [List.take_append_of_le_length (by omega), List.take_succ_eq_append_getElem h]
    rw [e3, List.append_assoc, List.set_append_right _ _ (by simp; omega)]
    simp [Nat.min_eq_left hk]
  · have hk' : k = l.length := by omega
    subst hk'
    have e3 : List.take (l.length + 1) (l ++ [x]) = l ++ [x] := List.take_of_length_le (by simp)
    rw [e3]
    simp

theorem r4_l2 {rs : List Rule} {i : Nat} (hi : i < rs.length) {r : Rule} (hr : rs[i] = r) (h : ROk r) : ∀ (n j : Nat) (acc : TrL), r.1 + (j : Int) + n = r.2.1 + 1 → acc.length + n ≤ 90000 →
    r04_occurrences_l2 rs (i : Int) (r.1 + (j : Int)) acc.reverse = some (rs, (i : Int), (isortRev ((List.range n).map fun (q : Nat) => occ r (r.1 + (j : Int) + (q : Int))) acc).reverse)
  | 0, j, acc, hj, _ => by
    have hg : rs.getD i ((0 : Int), ((0 : Int), ((0 : Int), ((0 : Int), ((0 : Int), ((0 : Int), (0 : Int))))))) = r := by simp [hi, hr]
    rw [r04_occurrences_l2_eq]
    simp only [r04_occurrences_l2_step]
    rw [inR_t (by omega) (by omega)]
    simp only [cond_true, Int.toNat_natCast, hg]
    rw [dec_false (by omega), cond_false, lpK_inr]
    rfl
  | n + 1, j, acc, hj, hl => by
    have hg : rs.getD i ((0 : Int), ((0 : Int), ((0 : Int), ((0 : Int), ((0 : Int), ((0 : Int), (0 : Int))))))) = r := by simp [hi, hr]
    have h0 := h.y0; have h2 := h.y2; have hs0 := h.s0; have hs1 := h.s1
    have hv := num_range (dim_valid1 (r.1 + (j : Int)) r.2.2.1 (by omega) (by omega) h.m0 h.m1)
    have hn := nth_range (w := r.2.2.2.2.1) (y := r.1 + (j : Int)) (by omega) (by omega) h.m0 h.m1 h.k0 h.k1
    have hd := dim_range (r.1 + (j : Int)) r.2.2.1
    rw [r04_occurrences_l2_eq]
    simp only [r04_occurrences_l2_step]
    rw [inR_t (by omega) (by omega)]
    simp only [cond_true, Int.toNat_natCast, hg]
    rw [dec_true (show r.1 + (j : Int) ≤ r.2.1 by omega), r01_Nth_ok _ _ _ _ (by omega) (by omega) h.m0 h.m1 h.k0 h.k1 h.d0 h.d1]
    simp only [cond_true, Option.bind_some]
    rw [w64_in (x := nth (r.1 + (j : Int)) r.2.2.1 r.2.2.2.1 r.2.2.2.2.1 * 86400) (by omega) (by omega), w64_in (x := nth (r.1 + (j : Int)) r.2.2.1 r.2.2.2.1 r.2.2.2.2.1 * 86400 + r.2.2.2.2.2.1) (by omega) (by omega)]
    have hl4 := r4_l4 (rs := rs) (i := (i : Int)) (y := r.1 + (j : Int)) (a := (occ r (r.1 + (j : Int))).1) (b := (occ r (r.1 + (j : Int))).2) acc [] (by simp; omega)
    rw [List.append_nil] at hl4
    rw [show Int.ofNat (List.length acc.reverse) = (acc.length : Int) by simp]
    rw [show r04_occurrences_l4 rs (i : Int) (r.1 + (j : Int)) (acc.length : Int) (nth (r.1 + (j : Int)) r.2.2.1 r.2.2.2.1 r.2.2.2.2.1 * 86400 + r.2.2.2.2.2.1) r.2.2.2.2.2.2 acc.reverse = _ from hl4]
    simp only [Option.bind_some]
    generalize hx : occ r (r.1 + (j : Int)) = x at *
    have hdl : (acc.dropWhile (fun z => decide (x.1 < z.1))).length ≤ acc.length := (List.dropWhile_sublist _).length_le
    generalize hD : acc.dropWhile (fun z => decide (x.1 < z.1)) = D at *
    have hlen1 : (acc.reverse ++ [(x.1, x.2)]).length = acc.length + 1 := by simp
    rw [dec_true (by simp [sizeMax]; omega)]
    simp only [cond_true]
    rw [w64_in (x := (D.length : Int) + 1) (by omega) (by omega), dec_true (show (0 : Int) ≤ (D.length : Int) + 1 by omega), dec_true (show (D.length : Int) + 1 ≤ Int.ofNat (acc.reverse ++ [(x.1, x.2)]).length by rw [hlen1]; show (D.length : Int) + 1 ≤ ((acc.length + 1 : Nat) : Int); omega),
      dec_true (show (0 : Int) ≤ (D.length : Int) by omega), dec_true (show (D.length : Int) ≤ Int.ofNat (acc.reverse ++ [(x.1, x.2)]).length by rw [hlen1]; show (D.length : Int) ≤ ((acc.length + 1 : Nat) : Int); omega)]
    simp only [Bool.and_self, cond_true, Int.toNat_natCast, show ((D.length : Int) + 1).toNat = D.length + 1 by omega]
    have hov : (over (acc.reverse ++ [(x.1, x.2)]) (D.length + 1) (List.drop D.length (acc.reverse ++ [(x.1, x.2)]))).length = acc.length + 1 := by
      unfold over
      simp
      omega
    rw [inR_t (by omega) (by rw [hov]; omega), over_ins acc.reverse (x.1, x.2) (by simpa using hdl)]
    simp only [cond_true]
    rw [w64_in (x := r.1 + (j : Int) + 1) (by omega) (by omega), lpK_inl]
    have hins : acc.reverse.take D.length ++ (x.1, x.2) :: acc.reverse.drop D.length = (insRev x acc).reverse := by
      have hsp := List.takeWhile_append_dropWhile (p := fun z : Int × Int => decide (x.1 < z.1)) (l := acc)
      rw [insRev_split, hD]
      rw [hD] at hsp
      generalize acc.takeWhile (fun z => decide (x.1 < z.1)) = T at hsp ⊢
      rw [← hsp]
      simp
    rw [hins]
    have ih := r4_l2 hi hr h n (j + 1) (insRev x acc) (by omega) (by rw [insRev_len]; omega)
    rw [show r.1 + (j : Int) + 1 = r.1 + ((j + 1 : Nat) : Int) by omega]
    refine ih.trans ?_
    have hmap : (List.range n).map (fun (q : Nat) => occ r (r.1 + ((j + 1 : Nat) : Int) + (q : Int))) = (List.range n).map ((fun (q : Nat) => occ r (r.1 + (j : Int) + (q : Int))) ∘ Nat.succ) := List.map_congr_left fun q _ => by
      simp only [Function.comp]
      congr 1
      omega
    rw [List.range_succ_eq_map, List.map_cons, List.map_map, hmap]
    simp [isortRev, hx]

theorem isortRev_app : ∀ (a b acc : TrL), isortRev (a ++ b) acc = isortRev b (isortRev a acc)
  | [], _, _ => rfl
  | x :: a, b, acc => by simp only [List.cons_append, isortRev]; exact isortRev_app a b _

theorem r4_l0 {rs : List Rule} (h : ∀ r ∈ rs, ROk r) (hlen : rs.length ≤ 100) : ∀ (n i : Nat) (acc : TrL), i + n = rs.length → acc.length ≤ 300 * i →
    r04_occurrences_l0 rs (i : Int) acc.reverse = some (isortRev (occs (rs.drop i)) acc).reverse
  | 0, i, acc, hi, _ => by
    rw [r04_occurrences_l0_eq]
    simp only [r04_occurrences_l0_step, show Int.ofNat (List.length rs) = (rs.length : Int) from rfl]
    rw [dec_false (by omega), cond_false, lpK_inr, List.drop_of_length_le (by omega)]
    rfl
  | n + 1, i, acc, hi, hl => by
    have hlt : i < rs.length := by omega
    have hr := h rs[i] (List.getElem_mem hlt)
    have h0 := hr.y0; have h1 := hr.y1; have h2 := hr.y2
    have hg : rs.getD i ((0 : Int), ((0 : Int), ((0 : Int), ((0 : Int), ((0 : Int), ((0 : Int), (0 : Int))))))) = rs[i] := by simp [hlt]
    have hl2 := r4_l2 hlt rfl hr (rs[i].2.1 - rs[i].1 + 1).toNat 0 acc (by omega) (by omega)
    rw [show rs[i].1 + ((0 : Nat) : Int) = rs[i].1 by omega] at hl2
    have ih := r4_l0 h hlen n (i + 1) (isortRev (occR rs[i]) acc) (by omega) (by rw [isortRev_len]; simp [occR]; omega)
    rw [r04_occurrences_l0_eq]
    simp only [r04_occurrences_l0_step, show Int.ofNat (List.length rs) = (rs.length : Int) from rfl]
    rw [dec_true (show (i : Int) < (rs.length : Int) by omega), inR_t (by omega) (by omega)]
    simp only [cond_true, Int.toNat_natCast, hg, hl2, Option.bind_some]
    rw [w64_in (by omega) (by omega), lpK_inl, List.drop_eq_getElem_cons hlt]
    refine ih.trans ?_
    show _ = some (isortRev (occR rs[i] ++ occs (rs.drop (i + 1))) acc).reverse
    rw [isortRev_app]

theorem r4occ_ok {rs : List Rule} (h : ∀ r ∈ rs, ROk r) (hlen : rs.length ≤ 100) : r04_occurrences rs = some (isort (occs rs)) := by
  have e := r4_l0 h hlen rs.length 0 [] (by omega) (by simp)
  simp only [r04_occurrences]
  rw [show r04_occurrences_l0 rs 0 [] = _ from e]
  rfl

theorem r4_cnt {rs : List Rule} (h : ∀ r ∈ rs, ROk r) (hlen : rs.length ≤ 100) (nm : ByteArray) (o : Int) : ∀ (n i : Nat) (s : Int), i + n = rs.length → 0 ≤ s → s ≤ 300 * i →
    r04_Transitions_l0 s (i : Int) nm o rs = some (.inr (s + ((occs (rs.drop i)).length : Int), nm, o, rs))
  | 0, i, s, hi, _, _ => by
    rw [r04_Transitions_l0_eq]
    simp only [r04_Transitions_l0_step, show Int.ofNat (List.length rs) = (rs.length : Int) from rfl]
    rw [dec_false (by omega), cond_false, lpK_inr, List.drop_of_length_le (by omega)]
    simp [occs]
  | n + 1, i, s, hi, hs0, hs1 => by
    have hlt : i < rs.length := by omega
    have hr := h rs[i] (List.getElem_mem hlt)
    have h0 := hr.y0; have h1 := hr.y1; have h2 := hr.y2
    have hg : rs.getD i ((0 : Int), ((0 : Int), ((0 : Int), ((0 : Int), ((0 : Int), ((0 : Int), (0 : Int))))))) = rs[i] := by simp [hlt]
    have ih := r4_cnt h hlen nm o n (i + 1) (s + (rs[i].2.1 - rs[i].1 + 1)) (by omega) (by omega) (by omega)
    have hrule : r04_right (rs[i].1, (rs[i].2.1, (rs[i].2.2.1, (rs[i].2.2.2.1, (rs[i].2.2.2.2.1, (rs[i].2.2.2.2.2.1, rs[i].2.2.2.2.2.2)))))) = some true := r4right_ok hr
    rw [r04_Transitions_l0_eq]
    simp only [r04_Transitions_l0_step, show Int.ofNat (List.length rs) = (rs.length : Int) from rfl]
    rw [dec_true (show (i : Int) < (rs.length : Int) by omega), inR_t (by omega) (by omega)]
    simp only [cond_true, Int.toNat_natCast, hg, hrule, Option.bind_some, Bool.not_true, cond_false]
    rw [w64_in (x := rs[i].2.1 - rs[i].1) (by omega) (by omega), w64_in (x := rs[i].2.1 - rs[i].1 + 1) (by omega) (by omega), w64_in (x := s + (rs[i].2.1 - rs[i].1 + 1)) (by omega) (by omega), w64_in (x := (i : Int) + 1) (by omega) (by omega), lpK_inl]
    refine ih.trans ?_
    rw [List.drop_eq_getElem_cons hlt]
    have : ((occs (rs[i] :: rs.drop (i + 1))).length : Int) = (rs[i].2.1 - rs[i].1 + 1) + ((occs (rs.drop (i + 1))).length : Int) := by
      have e1 : (occR rs[i]).length = (rs[i].2.1 - rs[i].1 + 1).toNat := by simp [occR]
      show ((occR rs[i] ++ occs (rs.drop (i + 1))).length : Int) = _
      rw [List.length_append, e1]; omega
    rw [this]
    congr 3; omega

theorem r4_lp (L : TrL) (hL : L.length ≤ 1000) : ∀ (n i : Nat) (now : Int) (acc : TrL), i + n = L.length → -64800 ≤ now → now ≤ 64800 → acc.length ≤ i → (∀ x ∈ acc, 0 ≤ x.1 ∧ x.1 ≤ 8589934592) → Good now (acc.getLast?.map (·.1)) (L.drop i) →
    r04_Transitions_l2 now (i : Int) acc L = some (.inr (acc ++ outT now (L.drop i)))
  | 0, i, now, acc, hi, _, _, _, _, _ => by
    rw [r04_Transitions_l2_eq]
    simp only [r04_Transitions_l2_step, show Int.ofNat (List.length L) = (L.length : Int) from rfl]
    rw [dec_false (by omega), cond_false, lpK_inr, List.drop_of_length_le (by omega)]
    simp [outT]
  | n + 1, i, now, acc, hi, hn0, hn1, hal, hacc, hg => by
    have hlt : i < L.length := by omega
    rw [List.drop_eq_getElem_cons hlt] at hg ⊢
    have hgd : L.getD i ((0 : Int), (0 : Int)) = L[i] := by simp [hlt]
    rw [r04_Transitions_l2_eq]
    simp only [r04_Transitions_l2_step, show Int.ofNat (List.length L) = (L.length : Int) from rfl]
    rw [dec_true (show (i : Int) < (L.length : Int) by omega), inR_t (by omega) (by omega)]
    simp only [cond_true, Int.toNat_natCast, hgd]
    generalize L[i] = x at *
    rw [w64_in (x := (i : Int) + 1) (by omega) (by omega)]
    simp only [Good] at hg
    by_cases hx : x.2 = now
    · rw [if_pos hx] at hg
      rw [beq_t hx]
      simp only [cond_true, lpK_inl, outT]
      rw [if_pos hx]
      exact r4_lp L hL n (i + 1) now acc (by omega) hn0 hn1 (by omega) hacc hg
    · rw [if_neg hx] at hg
      obtain ⟨⟨g1, g2, g3, g4, g5, g6, g7⟩, g8⟩ := hg
      rw [beq_f hx, w64_in (x := x.1 - now) (by omega) (by omega), w64_in (x := x.2 - now) (by omega) (by omega)]
      simp only [cond_false, r4in_t (show (-86399 : Int) ≤ x.2 - now by omega) (show x.2 - now ≤ 86399 by omega), r4in_t (show (0 : Int) ≤ x.1 - now by omega) (show x.1 - now ≤ 8589934592 by omega), Option.bind_some, Bool.not_true, show Int.ofNat (List.length acc) = (acc.length : Int) from rfl]
      have hnext := r4_lp L hL n (i + 1) x.2 (acc ++ [(x.1 - now, x.2)]) (by omega) g6 g7 (by simp; omega)
        (fun y hy => by
          rcases List.mem_append.1 hy with hy | hy
          · exact hacc y hy
          · simp at hy; subst hy; exact ⟨by show (0 : Int) ≤ x.1 - now; omega, by show x.1 - now ≤ 8589934592; omega⟩) (by simpa using g8)
      have hout : outT now (x :: L.drop (i + 1)) = (x.1 - now, x.2) :: outT x.2 (L.drop (i + 1)) := by simp [outT, hx]
      rw [hout]
      rw [List.append_assoc] at hnext
      rw [w64_in (x := (acc.length : Int) - 1) (by omega) (by omega)]
      by_cases ha : acc = []
      · subst ha
        simp only [List.length_nil]
        rw [show decide (((0 : Nat) : Int) > 0) = false from rfl]
        simp only [cond_false]
        rw [dec_true (by simp [sizeMax])]
        simp only [cond_true, lpK_inl]
        exact hnext
      · have hpos : 0 < acc.length := List.length_pos_iff.2 ha
        have hlast : acc.getLast? = some (acc.getD (acc.length - 1) (0, 0)) := by
          rw [List.getLast?_eq_getElem?, List.getD_eq_getElem?_getD, List.getElem?_eq_getElem (show acc.length - 1 < acc.length by omega)]; rfl
        rw [hlast] at g5
        have g5 : (acc.getD (acc.length - 1) ((0 : Int), (0 : Int))).1 + 604800 ≤ x.1 - now := g5 _ rfl
        have hb := hacc (acc.getD (acc.length - 1) (0, 0)) (List.mem_of_getLast? hlast)
        rw [inR_t (by omega) (by omega), dec_true (show (acc.length : Int) > 0 by omega), show ((acc.length : Int) - 1).toNat = acc.length - 1 by omega]
        simp only [cond_true]
        rw [w64_in (by omega) (by omega), dec_false (show ¬ x.1 - now - (acc.getD (acc.length - 1) ((0 : Int), (0 : Int))).1 < 604800 by omega), dec_true (by simp [sizeMax]; omega)]
        simp only [cond_true, cond_false, lpK_inl]
        exact hnext

theorem r4tab {nm : ByteArray} {o : Int} {rs : List Rule} (h : ∀ r ∈ rs, ROk r) (ho0 : -64800 ≤ o) (ho1 : o ≤ 64800) (hlen : rs.length ≤ 16) (hn : (occs rs).length ≤ 640) (hg : Good o none (isort (occs rs))) :
    r04_Transitions (nm, (o, rs)) = some (outT o (isort (occs rs)), 0) := by
  have hl : (isort (occs rs)).length ≤ 1000 := by simp [isort, isortRev_len]; omega
  have e0 := r4_cnt h (by omega) nm o rs.length 0 0 (by omega) (by omega) (by omega)
  rw [List.drop_zero] at e0
  have e2 := r4_lp (isort (occs rs)) hl (isort (occs rs)).length 0 o [] (by omega) ho0 ho1 (by simp) (by simp) hg
  rw [List.drop_zero] at e2
  simp only [r04_Transitions, r4in_t ho0 ho1, Option.bind_some, Bool.not_true, cond_false, show Int.ofNat (List.length rs) = (rs.length : Int) from rfl]
  rw [dec_false (show ¬ (rs.length : Int) > 16 by omega), cond_false, show r04_Transitions_l0 0 0 nm o rs = _ from e0]
  simp only [Option.bind_some, sumC_inr]
  rw [dec_false (by omega), cond_false, r4occ_ok h (by omega)]
  simp only [Option.bind_some]
  rw [show r04_Transitions_l2 o 0 [] (isort (occs rs)) = _ from e2]
  rfl

def Z4 (z : ByteArray × (Int × List Rule)) (l : TrL) : Prop := r04_Transitions z = some (l, 0) ∧ TOk z.2.1 l

theorem MZ.r4 {o : Int} {rs : List Rule} (h : MZ o rs) (nm : ByteArray) : Z4 (nm, (o, rs)) (outT o (isort (occs rs))) := by
  have ht := h.tab nm
  refine ⟨r4tab h.ok (by have := h.o0; omega) (by have := h.o1; omega) ?_ ?_ h.good, ht.2⟩
  · have := h.len; omega
  · have := h.few; omega
end Go.Proofs.Pw

/- Chapter 4: the reference's answers for right zones. -/
open Go Go.Lft
namespace Go.Proofs.Pw

section
variable {o : Int} {l : TrL} (h : TOk o l)
include h

theorem r4_off_lp {t : Int} {k : Nat} (hk : k ≤ l.length) (h1 : frm l k ≤ t) (h2 : t < frm l (k + 1)) : ∀ (n i : Nat), i + n = k → r04_offset_l0 l t (tof o l i) (i : Int) = some (tof o l k)
  | 0, i, hi => by
    have hi : i = k := by omega
    subst hi
    have hlen := h.len
    rw [r04_offset_l0_eq]
    simp only [r04_offset_l0_step, show Int.ofNat (List.length l) = (l.length : Int) from rfl]
    by_cases hlt : i < l.length
    · have e : frm l (i + 1) = tat l i := frm_s hlt
      rw [inR_t (by omega) (by omega), dec_true (show (i : Int) < (l.length : Int) by omega)]
      simp only [Bool.true_or, cond_true, Int.toNat_natCast]
      rw [dec_false (show ¬ (l.getD i ((0 : Int), (0 : Int))).1 ≤ t by show ¬ tat l i ≤ t; omega), cond_false, lpK_inr]
    · rw [dec_false (show ¬ (i : Int) < (l.length : Int) by omega)]
      simp only [Bool.not_false, Bool.or_true, cond_true, cond_false, lpK_inr]
  | n + 1, i, hi => by
    have hlen := h.len
    have hlt : i < l.length := by omega
    have e : frm l (i + 1) = tat l i := frm_s hlt
    have hle := h.frm_le (i := i + 1) (j := k) (by omega) (by omega)
    rw [r04_offset_l0_eq]
    simp only [r04_offset_l0_step, show Int.ofNat (List.length l) = (l.length : Int) from rfl]
    rw [inR_t (by omega) (by omega), dec_true (show (i : Int) < (l.length : Int) by omega)]
    simp only [Bool.true_or, cond_true, Int.toNat_natCast]
    rw [dec_true (show (l.getD i ((0 : Int), (0 : Int))).1 ≤ t by show tat l i ≤ t; omega), cond_true, w64_in (by omega) (by omega), lpK_inl]
    exact r4_off_lp hk h1 h2 n (i + 1) (by omega)

theorem r4_offset {nm : ByteArray} {rs : List Rule} {t : Int} {k : Nat} (hk : k ≤ l.length) (h1 : frm l k ≤ t) (h2 : t < frm l (k + 1)) : r04_offset (nm, (o, rs)) l t = some (tof o l k) := by
  have := r4_off_lp h hk h1 h2 k 0 (by omega)
  simp only [r04_offset]
  rw [show r04_offset_l0 l t o 0 = _ from this]
  rfl

end

theorem r4local_ok {t o : Int} (h1 : -864000 ≤ t + o) (h2 : t + o ≤ 1000000000000) : r04_local t o = some ((t + o) / 86400, (t + o) % 86400) := by
  simp only [r04_local]
  rw [w64_in (x := t + o) (by omega) (by omega), w64_in (x := t + o + 864000) (by omega) (by omega), tdiv_nn (by omega), tmod_nn (by omega), w64_in (x := (t + o + 864000) / 86400) (by omega) (by omega), w64_in (by omega) (by omega)]
  congr 2 <;> omega

section
variable {z : ByteArray × (Int × List Rule)} {l : TrL} (h : Z4 z l)
include h

theorem r4Off_ok {t : Int} {k : Nat} (h0 : 0 ≤ t) (h1 : t ≤ 8589934592) (hk : k ≤ l.length) (hk1 : frm l k ≤ t) (hk2 : t < frm l (k + 1)) : r04_OffsetAt z t = some (tof z.2.1 l k, 0) := by
  simp only [r04_OffsetAt, show r04_Transitions (z.1, (z.2.1, z.2.2)) = _ from h.1, Option.bind_some, bne_self_eq_false, cond_false, r4in_t h0 h1, Bool.not_true, r4_offset h.2 hk hk1 hk2]

theorem r4ToL_ok {t : Int} {k : Nat} (h0 : 0 ≤ t) (h1 : t ≤ 8589934592) (hk : k ≤ l.length) (hk1 : frm l k ≤ t) (hk2 : t < frm l (k + 1)) : r04_ToLocal z t = some (((t + tof z.2.1 l k) / 86400, (t + tof z.2.1 l k) % 86400), 0) := by
  have o1 := h.2.of0 k hk; have o2 := h.2.of1 k hk
  simp only [r04_ToLocal, show r04_OffsetAt (z.1, (z.2.1, z.2.2)) t = _ from r4Off_ok h h0 h1 hk hk1 hk2, Option.bind_some, bne_self_eq_false, cond_false, r4local_ok (show -864000 ≤ t + tof z.2.1 l k by omega) (by omega)]

end
end Go.Proofs.Pw

/- The first instant at which a clock shows at least a local time, if there is one. -/
open Go Go.Lft
namespace Go.Proofs.Pw

def NoF (o : Int) (l : TrL) (s : Int) : Prop := ∀ j, j ≤ l.length → frm l (j + 1) ≤ s - tof o l j

noncomputable def fO (o : Int) (l : TrL) (s : Int) : Option Int := open Classical in if h : ∃ t k, Fst o l s t k then some (Classical.choose h) else none

theorem Fst.uniq {o : Int} {l : TrL} {s t t' : Int} {k k' : Nat} (f : Fst o l s t k) (g : Fst o l s t' k') : k = k' ∧ t = t' := by
  have hk : k = k' := by
    rcases Nat.lt_trichotomy k k' with hlt | heq | hgt
    · have := g.bef k hlt; have := f.hks; omega
    · exact heq
    · have := f.bef k' hgt; have := g.hks; omega
  subst hk
  exact ⟨rfl, by rw [f.ht, g.ht]⟩

theorem fO_t {o : Int} {l : TrL} {s t : Int} {k : Nat} (f : Fst o l s t k) : fO o l s = some t := by
  have he : ∃ t k, Fst o l s t k := ⟨t, k, f⟩
  unfold fO
  rw [dif_pos he]
  obtain ⟨k', g⟩ := Classical.choose_spec he
  rw [(g.uniq f).2]

theorem fO_n {o : Int} {l : TrL} {s : Int} (hno : NoF o l s) : fO o l s = none := by
  unfold fO
  rw [dif_neg]
  rintro ⟨t, k, f⟩
  have := hno k f.hk
  have := f.hks
  omega

theorem fst_or (o : Int) (l : TrL) (s : Int) : (∃ t k, Fst o l s t k) ∨ NoF o l s := by
  by_cases hno : NoF o l s
  · exact .inr hno
  · left
    have : ∃ j, j ≤ l.length ∧ s - tof o l j < frm l (j + 1) := by
      apply Classical.byContradiction
      intro hn
      exact hno fun j hj => by
        rcases Int.lt_or_le (s - tof o l j) (frm l (j + 1)) with h | h
        · exact absurd ⟨j, hj, h⟩ hn
        · exact h
    obtain ⟨j, hj, hjs⟩ := this
    obtain ⟨a, ⟨ha, haN⟩, hmin⟩ := least (fun j => s - tof o l j < frm l (j + 1) ∧ j ≤ l.length) j ⟨hjs, hj⟩
    refine ⟨_, a, haN, ha, fun i hi => ?_, rfl⟩
    rcases Int.lt_or_le (s - tof o l i) (frm l (i + 1)) with h' | h'
    · have := hmin i ⟨h', by omega⟩; omega
    · exact h'

theorem fO_ex {o : Int} {l : TrL} {s t : Int} (he : fO o l s = some t) : ∃ k, Fst o l s t k := by
  rcases fst_or o l s with ⟨t', k, f⟩ | hno
  · rw [fO_t f] at he
    simp at he; subst he
    exact ⟨k, f⟩
  · rw [fO_n hno] at he; simp at he

section
variable {o : Int} {l : TrL} (h : TOk o l)
include h

theorem fO_at {s t : Int} (he : fO o l s = some t) : s ≤ t + 64800 ∧ 0 ≤ t ∧ t ≤ 8589934592 := by
  obtain ⟨k, f⟩ := fO_ex he
  obtain ⟨p1, p2, p3⟩ := f.piece h
  have o1 := h.of1 k f.hk
  have g1 := h.frm_le (i := 0) (j := k) (by omega) (by have := f.hk; omega)
  have e0 : frm l 0 = 0 := frm0
  have e1 : frm l (l.length + 1) = 8589934593 := frm_end
  have g2 := h.frm_le (i := k + 1) (j := l.length + 1) (by have := f.hk; omega) (by omega)
  omega

theorem fO_big {s : Int} (hs : 8589934593 + 64800 ≤ s) : NoF o l s := fun j hj => by
  have o1 := h.of1 j hj
  have e1 : frm l (l.length + 1) = 8589934593 := frm_end
  have g2 := h.frm_le (i := j + 1) (j := l.length + 1) (by omega) (by omega)
  omega

theorem fO_mono {s s' t' : Int} (hs : s ≤ s') (he : fO o l s' = some t') : ∃ t, fO o l s = some t ∧ t ≤ t' := by
  obtain ⟨k', g⟩ := fO_ex he
  have g1 := g.hks
  have hk' := g.hk
  rcases fst_or o l s with ⟨t, k, f⟩ | hno
  · refine ⟨t, fO_t f, ?_⟩
    obtain ⟨p1, p2, p3⟩ := f.piece h
    obtain ⟨q1, q2, q3⟩ := g.piece h
    have f1 := f.ht; have g2 := g.ht
    rcases Nat.lt_trichotomy k k' with hlt | heq | hgt
    · have := h.frm_le (i := k + 1) (j := k') (by omega) (by omega); omega
    · subst heq; omega
    · have := f.bef k' hgt; omega
  · have := hno k' hk'; omega

theorem First_no_lp {d c s : Int} (hsec : zone_seconds (d, c) = some s) (hs0 : -1000000000000 ≤ s) (hs1 : s ≤ 1000000000000) (hno : NoF o l s) :
    ∀ (n i : Nat), i + n = l.length + 1 → zone_Table_First_l0 ((l.length + 1 : Nat) : Int) (i : Int) d c (pcs o l (l.length + 1)) = some (.inr ())
  | 0, i, hi => by
    rw [zone_Table_First_l0_eq]
    simp only [zone_Table_First_l0_step]
    rw [dec_false (by omega), cond_false, lpK_inr]
  | n + 1, i, hi => by
    have hlen := h.len
    have hil : i ≤ l.length := by omega
    have o1 := h.of0 i hil; have o2 := h.of1 i hil
    have hb := hno i hil
    have hlt := h.frm_lt hil
    rw [zone_Table_First_l0_eq]
    simp only [zone_Table_First_l0_step]
    rw [dec_true (show (i : Int) < ((l.length + 1 : Nat) : Int) by omega), inR_t (by omega) (by rw [pcs_len]; omega)]
    simp only [cond_true, Int.toNat_natCast, pcs_get (show i < l.length + 1 by omega), hsec, Option.bind_some, pc]
    rw [w64_in (x := s - tof o l i) (by omega) (by omega), w64_in (x := (i : Int) + 1) (by omega) (by omega)]
    have hm : (if s - tof o l i > frm l i then s - tof o l i else frm l i) = max (frm l i) (s - tof o l i) := by split <;> omega
    rw [hm, dec_false (by omega), cond_false, lpK_inl]
    exact First_no_lp hsec hs0 hs1 hno n (i + 1) (by omega)

theorem First_no {d c s : Int} (hsec : zone_seconds (d, c) = some s) (hs0 : -1000000000000 ≤ s) (hs1 : s ≤ 1000000000000) (hno : NoF o l s) : zone_Table_First (o, l) (d, c) = some (0, false) := by
  have := First_no_lp h hsec hs0 hs1 hno (l.length + 1) 0 (by omega)
  simp only [zone_Table_First, Pieces_ok h, Option.bind_some, pcs_len, show Int.ofNat (List.length l + 1) = ((l.length + 1 : Nat) : Int) from rfl]
  rw [show (0 : Int) = ((0 : Nat) : Int) from rfl, this]
  rfl

theorem First_any {d c : Int} (hd : -1000000 ≤ d) (hd2 : d ≤ 1000000000000000) (hc : 0 ≤ c) (hc2 : c ≤ 86399) :
    zone_Table_First (o, l) (d, c) = some ((fO o l (d * 86400 + c)).getD 0, (fO o l (d * 86400 + c)).isSome) := by
  by_cases hb : d ≤ 1000000
  · rcases fst_or o l (d * 86400 + c) with ⟨t, k, f⟩ | hno
    · have e := First_ok h hd hb (by omega) (by omega) f.hk f.hks f.bef
      rw [← f.ht] at e
      rw [fO_t f]
      exact e
    · rw [fO_n hno]
      exact First_no h (seconds_ok hd hb (by omega) (by omega)) (by omega) (by omega) hno
  · have hno : NoF o l (d * 86400 + c) := fO_big h (by omega)
    rw [fO_n hno]
    by_cases hb2 : d ≤ 1048576
    · have hsec : zone_seconds (d, c) = some (d * 86400 + c) := by
        simp only [zone_seconds]
        rw [if_neg (show ¬ (-1048576 : Int) > d by omega), if_neg (show ¬ (1048576 : Int) < d by omega), w64_in (x := d * 86400) (by omega) (by omega), w64_in (by omega) (by omega)]
      exact First_no h hsec (by omega) (by omega) hno
    · have hsec : zone_seconds (d, c) = some (1048576 * 86400 + c) := by
        simp only [zone_seconds]
        rw [if_neg (show ¬ (-1048576 : Int) > d by omega), if_pos (show (1048576 : Int) < d by omega), w64_in (x := 1048576 * 86400) (by omega) (by omega), w64_in (by omega) (by omega)]
      exact First_no h hsec (by omega) (by omega) (fO_big h (by omega))

end

end Go.Proofs.Pw

/- Chapter 10: handovers of any layer that is right. -/
open Go Go.Lft
namespace Go.Proofs.Pw

/-- Layers that are right. -/
structure Rt (L : LayerT) : Prop where
  d0 : 1 ≤ L.2.2.1.1
  d1 : L.2.2.1.1 ≤ 100000
  c0 : 0 ≤ L.2.2.1.2
  c1 : L.2.2.1.2 ≤ 86399
  u0 : 0 ≤ L.2.2.2.1
  u1 : L.2.2.2.1 ≤ 2
  e0 : 1 ≤ L.2.2.2.2.1
  e1 : L.2.2.2.2.1 ≤ 400
  m0 : L.2.2.2.2.2.1 ≠ []

theorem Rt.step {L : LayerT} (h : Rt L) : 1 ≤ stepD L ∧ stepD L ≤ 2800 := by
  have := h.e0; have := h.e1
  unfold stepD; split <;> omega

noncomputable def hO (o : Int) (l : TrL) (L : LayerT) (k : Int) : Option Int :=
  if L.2.2.2.1 = 0 then (fO o l (sLoc L 0)).bind fun t => if t + 3600 * L.2.2.2.2.1 * k ≤ 8589934592 then some (t + 3600 * L.2.2.2.2.1 * k) else none
  else fO o l (sLoc L k)

section
variable {o : Int} {l : TrL} (ht : TOk o l) {L : LayerT} (h : Rt L)
include ht h

theorem hO_at {k t : Int} (hk : 0 ≤ k) (he : hO o l L k = some t) : 0 ≤ t ∧ t ≤ 8589934592 ∧ k ≤ 2386092 := by
  have hs := h.step
  have hd0 := h.d0; have he0 := h.e0; have hc0 := h.c0
  unfold hO at he
  by_cases h0 : L.2.2.2.1 = 0
  · rw [if_pos h0] at he
    cases hf : fO o l (sLoc L 0) with
    | none => rw [hf] at he; simp at he
    | some v =>
      rw [hf] at he
      simp only [Option.bind_some] at he
      have hv := fO_at ht hf
      have hm : 3600 * k ≤ 3600 * L.2.2.2.2.1 * k := Int.mul_le_mul_of_nonneg_right (by omega) hk
      split at he
      · simp at he; omega
      · simp at he
  · rw [if_neg h0] at he
    have hv := fO_at ht he
    have hm : k * 1 ≤ k * stepD L := Int.mul_le_mul_of_nonneg_left hs.1 hk
    unfold sLoc at hv
    omega

theorem hO_mono1 {k t : Int} (he : hO o l L (k + 1) = some t) : ∃ v, hO o l L k = some v ∧ v ≤ t := by
  have hs := h.step
  have he0 := h.e0
  unfold hO at he ⊢
  by_cases h0 : L.2.2.2.1 = 0
  · rw [if_pos h0] at he ⊢
    cases hf : fO o l (sLoc L 0) with
    | none => rw [hf] at he; simp at he
    | some v =>
      rw [hf] at he
      simp only [Option.bind_some] at he ⊢
      have hm : 3600 * L.2.2.2.2.1 * (k + 1) = 3600 * L.2.2.2.2.1 * k + 3600 * L.2.2.2.2.1 := by rw [Int.mul_add, Int.mul_one]
      split at he
      · rw [if_pos (by omega)]
        simp at he
        exact ⟨_, rfl, by omega⟩
      · simp at he
  · rw [if_neg h0] at he ⊢
    have hm : (k + 1) * stepD L = k * stepD L + stepD L := by rw [Int.add_mul, Int.one_mul]
    exact fO_mono ht (by unfold sLoc; rw [hm]; omega) he

def QO (o : Int) (l : TrL) (L : LayerT) (t k : Int) : Prop := ∃ v, hO o l L k = some v ∧ v ≤ t

theorem QO.down {t : Int} : ∀ (n : Nat) {k : Int}, QO o l L t (k + n) → QO o l L t k
  | 0, k, hq => by rwa [show k + ((0 : Nat) : Int) = k by omega] at hq
  | n + 1, k, hq => by
    rw [show k + ((n + 1 : Nat) : Int) = k + (n : Int) + 1 by omega] at hq
    obtain ⟨v, hv, hvt⟩ := hq
    obtain ⟨v', hv', hl⟩ := hO_mono1 ht h (k := k + (n : Int)) hv
    exact QO.down n ⟨v', hv', by omega⟩

theorem QO.le {t k j : Int} (hkj : k ≤ j) (hq : QO o l L t j) : QO o l L t k := by
  refine QO.down ht h (j - k).toNat ?_
  rwa [show k + (((j - k).toNat : Nat) : Int) = j by omega]

def ShO (o : Int) (l : TrL) (L : LayerT) (t K : Int) : Prop := (K = -1 ∧ ¬ QO o l L t 0) ∨ (0 ≤ K ∧ QO o l L t K ∧ ¬ QO o l L t (K + 1))

theorem ShO.uniq {t K K' : Int} (a : ShO o l L t K) (b : ShO o l L t K') : K = K' := by
  rcases a with ⟨a1, a2⟩ | ⟨a1, a2, a3⟩ <;> rcases b with ⟨b1, b2⟩ | ⟨b1, b2, b3⟩
  · omega
  · exact absurd (QO.le ht h b1 b2) a2
  · exact absurd (QO.le ht h a1 a2) b2
  · rcases Int.lt_trichotomy K K' with hlt | heq | hgt
    · exact absurd (QO.le ht h (by omega) b2) a3
    · exact heq
    · exact absurd (QO.le ht h (by omega) a2) b3

theorem QO.day {t k : Int} (h0 : L.2.2.2.1 ≠ 0) (hq : QO o l L t k) {j : Nat} (hj : j ≤ l.length) : L.2.2.1.1 + k * stepD L ≤ (t + tof o l j) / 86400 + 2 := by
  obtain ⟨v, hv, hvt⟩ := hq
  unfold hO at hv
  rw [if_neg h0] at hv
  have := fO_at ht hv
  have o0 := ht.of0 j hj
  have hc0 := h.c0
  unfold sLoc at this
  omega
end
end Go.Proofs.Pw

/- Chapter 10: package recur and its reference, for any layer that is right. -/
open Go Go.Lft
namespace Go.Proofs.Pw

theorem step_any {L : LayerT} (h : Rt L) : recur_step L = some (stepD L) := by
  have := h.e0; have := h.e1
  simp only [recur_step, stepD]
  by_cases h2 : L.2.2.2.1 = 2
  · rw [beq_t h2, cond_true, if_pos h2, w64_in (by omega) (by omega)]
  · rw [beq_f h2, cond_false, if_neg h2]

def HVal (r : Option (Int × Bool)) (x : Option Int) : Prop := ∃ v, r = some (v, x.isSome) ∧ ∀ t, x = some t → v = t

theorem recH {o : Int} {l : TrL} (ht : TOk o l) {L : LayerT} (h : Rt L) {k : Int} (hk : 0 ≤ k) (hk2 : k ≤ 8589934592) : HVal (recur_HandoverOf (o, l) L k) (hO o l L k) := by
  have hs := h.step
  have hd0 := h.d0; have hd1 := h.d1; have hc0 := h.c0; have hc1 := h.c1; have he0 := h.e0; have he1 := h.e1
  have hstep : recur_step (L.1, L.2.1, (L.2.2.1.1, L.2.2.1.2), L.2.2.2.1, L.2.2.2.2.1, L.2.2.2.2.2.1, L.2.2.2.2.2.2.1, L.2.2.2.2.2.2.2.1, L.2.2.2.2.2.2.2.2) = _ := step_any h
  simp only [HVal, recur_HandoverOf, hstep, Option.bind_some]
  rw [dec_false (show ¬ k > 8589934592 by omega), cond_false]
  by_cases h0 : L.2.2.2.1 = 0
  · have hF := First_any ht (d := L.2.2.1.1) (c := L.2.2.1.2) (by omega) (by omega) hc0 hc1
    have hs0 : L.2.2.1.1 * 86400 + L.2.2.1.2 = sLoc L 0 := by unfold sLoc; omega
    have hm0 : 0 ≤ 3600 * L.2.2.2.2.1 * k := Int.mul_nonneg (by omega) hk
    have hm1 : 3600 * L.2.2.2.2.1 * k ≤ 3600 * 400 * 8589934592 := Int.mul_le_mul (by omega) hk2 hk (by omega)
    rw [show (L.2.2.2.1 != 0) = false by rw [h0]; rfl, cond_false, hF, hs0]
    simp only [Option.bind_some]
    unfold hO
    rw [if_pos h0]
    cases hf : fO o l (sLoc L 0) with
    | none => exact ⟨_, rfl, fun t h => by simp at h⟩
    | some v =>
      have hv := fO_at ht hf
      simp only [Option.getD_some, Option.isSome_some, cond_true, Option.bind_some, w64_in (x := 3600 * L.2.2.2.2.1) (show -9223372036854775808 ≤ _ by omega) (by omega), w64_in (x := 3600 * L.2.2.2.2.1 * k) (show -9223372036854775808 ≤ _ by omega) (by omega), w64_in (x := v + 3600 * L.2.2.2.2.1 * k) (show -9223372036854775808 ≤ _ by omega) (by omega)]
      by_cases hle : v + 3600 * L.2.2.2.2.1 * k ≤ 8589934592
      · rw [if_pos hle, dec_true hle]
        exact ⟨_, rfl, fun t h => by simpa using h⟩
      · rw [if_neg hle, dec_false hle]
        exact ⟨_, rfl, fun t h => by simp at h⟩
  · have hm0 : 0 ≤ k * stepD L := Int.mul_nonneg hk (by omega)
    have hm1 : k * stepD L ≤ 8589934592 * 2800 := Int.mul_le_mul hk2 hs.2 (by omega) (by omega)
    rw [show (L.2.2.2.1 != 0) = true by simp [h0], cond_true, w64_in (x := k * stepD L) (by omega) (by omega), w64_in (x := L.2.2.1.1 + k * stepD L) (by omega) (by omega), First_any ht (by omega) (by omega) hc0 hc1]
    simp only [Option.bind_some]
    unfold hO
    rw [if_neg h0]
    exact ⟨_, rfl, fun t h => by have h : fO o l ((L.2.2.1.1 + k * stepD L) * 86400 + L.2.2.1.2) = some t := h; rw [h]; rfl⟩

theorem sh_l0 {o : Int} {l : TrL} (ht : TOk o l) {L : LayerT} (h : Rt L) {t N : Int} (hN : N ≤ 8589934592) (hfirst : QO o l L t 0) : ∀ n : Nat, (n : Int) ≤ N →
    ∃ k : Int, recur_ShiftOf_l0 t (n : Int) o l L.1 L.2.1 L.2.2.1.1 L.2.2.1.2 L.2.2.2.1 L.2.2.2.2.1 L.2.2.2.2.2.1 L.2.2.2.2.2.2.1 L.2.2.2.2.2.2.2.1 L.2.2.2.2.2.2.2.2 =
      some (t, k, o, l, L.1, L.2.1, L.2.2.1.1, L.2.2.1.2, L.2.2.2.1, L.2.2.2.2.1, L.2.2.2.2.2.1, L.2.2.2.2.2.2.1, L.2.2.2.2.2.2.2.1, L.2.2.2.2.2.2.2.2) ∧ 0 ≤ k ∧ QO o l L t k
  | 0, _ => by
    rw [recur_ShiftOf_l0_eq]
    simp only [recur_ShiftOf_l0_step]
    rw [dec_false (by omega), cond_false, lpK_inr]
    exact ⟨_, rfl, by omega, hfirst⟩
  | n + 1, hn => by
    obtain ⟨k, e, k0, k1⟩ := sh_l0 ht h hN hfirst n (by omega)
    obtain ⟨v, hH, hv⟩ := recH ht h (k := ((n + 1 : Nat) : Int)) (by omega) (by omega)
    rw [recur_ShiftOf_l0_eq]
    simp only [recur_ShiftOf_l0_step]
    rw [dec_true (by omega), cond_true, show recur_HandoverOf (o, l) (L.1, L.2.1, (L.2.2.1.1, L.2.2.1.2), L.2.2.2.1, L.2.2.2.2.1, L.2.2.2.2.2.1, L.2.2.2.2.2.2.1, L.2.2.2.2.2.2.2.1, L.2.2.2.2.2.2.2.2) ((n + 1 : Nat) : Int) = _ from hH]
    simp only [Option.bind_some]
    rw [w64_in (x := ((n + 1 : Nat) : Int) - 1) (by omega) (by omega), show ((n + 1 : Nat) : Int) - 1 = (n : Int) by omega]
    cases hx : hO o l L ((n + 1 : Nat) : Int) with
    | none =>
      simp only [Option.isSome_none, cond_false, lpK_inl]
      exact ⟨k, e, k0, k1⟩
    | some x =>
      have := hv x hx
      subst this
      simp only [Option.isSome_some, cond_true]
      by_cases hc : v ≤ t
      · rw [dec_true hc, cond_true, lpK_inr]
        exact ⟨_, rfl, by omega, v, hx, hc⟩
      · rw [dec_false hc, cond_false, lpK_inl]
        exact ⟨k, e, k0, k1⟩

theorem sh_l2 {o : Int} {l : TrL} (ht : TOk o l) {L : LayerT} (h : Rt L) {t : Int} : ∀ (n : Nat) (k : Int), k + n = 2386093 → 0 ≤ k → QO o l L t k →
    ∃ K : Int, recur_ShiftOf_l2 t k o l L.1 L.2.1 L.2.2.1.1 L.2.2.1.2 L.2.2.2.1 L.2.2.2.2.1 L.2.2.2.2.2.1 L.2.2.2.2.2.2.1 L.2.2.2.2.2.2.2.1 L.2.2.2.2.2.2.2.2 = some K ∧ 0 ≤ K ∧ QO o l L t K ∧ ¬ QO o l L t (K + 1)
  | 0, k, hn, hk, hq => by
    obtain ⟨v, hv, _⟩ := hq
    have := hO_at ht h hk hv
    omega
  | n + 1, k, hn, hk, hq => by
    obtain ⟨v, hH, hv⟩ := recH ht h (k := k + 1) (by omega) (by omega)
    rw [recur_ShiftOf_l2_eq]
    simp only [recur_ShiftOf_l2_step]
    rw [w64_in (x := k + 1) (by omega) (by omega), show recur_HandoverOf (o, l) (L.1, L.2.1, (L.2.2.1.1, L.2.2.1.2), L.2.2.2.1, L.2.2.2.2.1, L.2.2.2.2.2.1, L.2.2.2.2.2.2.1, L.2.2.2.2.2.2.2.1, L.2.2.2.2.2.2.2.2) (k + 1) = _ from hH]
    simp only [Option.bind_some]
    cases hx : hO o l L (k + 1) with
    | none =>
      simp only [Option.isSome_none, Bool.not_false, cond_true, lpK_inr]
      exact ⟨k, rfl, hk, hq, fun ⟨y, hy, _⟩ => by rw [hx] at hy; simp at hy⟩
    | some x =>
      have := hv x hx
      subst this
      simp only [Option.isSome_some, Bool.not_true, cond_false]
      by_cases hc : v > t
      · rw [dec_true hc, cond_true, lpK_inr]
        exact ⟨k, rfl, hk, hq, fun ⟨y, hy, hyt⟩ => by rw [hx] at hy; simp at hy; omega⟩
      · rw [dec_false hc, cond_false, lpK_inl]
        exact sh_l2 ht h n (k + 1) (by omega) (by omega) ⟨v, hx, by omega⟩

theorem sh_hours {o : Int} {l : TrL} {L : LayerT} (h : Rt L) {t v : Int} (h0 : L.2.2.2.1 = 0) (htt : t ≤ 8589934592) (hf : fO o l (sLoc L 0) = some v) (hvt : v ≤ t) (hv0 : 0 ≤ v) :
    ShO o l L t ((t - v) / (3600 * L.2.2.2.2.1)) ∧ 0 ≤ (t - v) / (3600 * L.2.2.2.2.1) ∧ (t - v) / (3600 * L.2.2.2.2.1) ≤ 8589934592 := by
  have he0 := h.e0; have he1 := h.e1
  have q0 : 0 ≤ (t - v) / (3600 * L.2.2.2.2.1) := Int.ediv_nonneg (by omega) (by omega)
  have q1 : 3600 * L.2.2.2.2.1 * ((t - v) / (3600 * L.2.2.2.2.1)) ≤ t - v := Int.mul_ediv_self_le (by omega)
  have q2 : t - v < 3600 * L.2.2.2.2.1 * ((t - v) / (3600 * L.2.2.2.2.1)) + 3600 * L.2.2.2.2.1 := Int.lt_mul_ediv_self_add (by omega)
  have q3 : (t - v) / (3600 * L.2.2.2.2.1) ≤ t - v := Int.ediv_le_self _ (by omega)
  generalize (t - v) / (3600 * L.2.2.2.2.1) = K at *
  refine ⟨.inr ⟨q0, ⟨v + 3600 * L.2.2.2.2.1 * K, ?_, by omega⟩, ?_⟩, q0, by omega⟩
  · unfold hO
    rw [if_pos h0, hf]
    simp only [Option.bind_some]
    rw [if_pos (by omega)]
  · rintro ⟨y, hy, hyt⟩
    unfold hO at hy
    rw [if_pos h0, hf] at hy
    simp only [Option.bind_some, Int.mul_add, Int.mul_one] at hy
    split at hy
    · simp at hy; omega
    · simp at hy

theorem hO_zero {o : Int} {l : TrL} {L : LayerT} (h0 : L.2.2.2.1 = 0) {v : Int} (hv : hO o l L 0 = some v) : fO o l (sLoc L 0) = some v := by
  unfold hO at hv
  rw [if_pos h0] at hv
  cases hf : fO o l (sLoc L 0) with
  | none => rw [hf] at hv; simp at hv
  | some x =>
    rw [hf] at hv
    simp only [Option.bind_some, Int.mul_zero, Int.add_zero] at hv
    split at hv
    · simpa using hv
    · simp at hv

theorem recSh {o : Int} {l : TrL} (ht : TOk o l) {L : LayerT} (h : Rt L) {t : Int} (h0t : 0 ≤ t) (htt : t ≤ 8589934592) : ∃ K : Int, recur_ShiftOf (o, l) L t = some K ∧ ShO o l L t K := by
  have hs := h.step
  have hd0 := h.d0; have hd1 := h.d1; have he0 := h.e0; have he1 := h.e1
  obtain ⟨v0, hH, hv⟩ := recH ht h (k := 0) (by omega) (by omega)
  have hstep : recur_step (L.1, L.2.1, (L.2.2.1.1, L.2.2.1.2), L.2.2.2.1, L.2.2.2.2.1, L.2.2.2.2.2.1, L.2.2.2.2.2.2.1, L.2.2.2.2.2.2.2.1, L.2.2.2.2.2.2.2.2) = _ := step_any h
  simp only [recur_ShiftOf, show recur_HandoverOf (o, l) (L.1, L.2.1, (L.2.2.1.1, L.2.2.1.2), L.2.2.2.1, L.2.2.2.2.1, L.2.2.2.2.2.1, L.2.2.2.2.2.2.1, L.2.2.2.2.2.2.2.1, L.2.2.2.2.2.2.2.2) 0 = _ from hH, hstep, Option.bind_some]
  cases hx : hO o l L 0 with
  | none =>
    simp only [Option.isSome_none, Bool.not_false, cond_true]
    exact ⟨-1, rfl, .inl ⟨rfl, fun ⟨y, hy, _⟩ => by rw [hx] at hy; simp at hy⟩⟩
  | some v =>
    have := hv v hx
    subst this
    simp only [Option.isSome_some, Bool.not_true, cond_false]
    by_cases hc : v0 > t
    · rw [dec_true hc, cond_true]
      exact ⟨-1, rfl, .inl ⟨rfl, fun ⟨y, hy, hyt⟩ => by rw [hx] at hy; simp at hy; omega⟩⟩
    · rw [dec_false hc, cond_false]
      have hq : QO o l L t 0 := ⟨v0, hx, by omega⟩
      have hva := hO_at ht h (k := 0) (by omega) hx
      by_cases h0 : L.2.2.2.1 = 0
      · obtain ⟨s1, s2, s3⟩ := sh_hours (o := o) (l := l) h h0 htt (hO_zero h0 hx) (by omega) hva.1
        rw [beq_t h0, cond_true, w64_in (x := t - v0) (by omega) (by omega), w64_in (x := 3600 * L.2.2.2.2.1) (by omega) (by omega), beq_f (show ¬ 3600 * L.2.2.2.2.1 = 0 by omega), Int.tdiv_eq_ediv_of_nonneg (by omega), w64_in (x := (t - v0) / (3600 * L.2.2.2.2.1)) (by omega) (by omega)]
        exact ⟨_, rfl, s1⟩
      · obtain ⟨j, hj, j1, j2⟩ := ex_piece ht h0t htt
        have o0 := ht.of0 j hj; have o1 := ht.of1 j hj
        rw [beq_f h0, cond_false, Local_ok ht hj j1 j2]
        simp only [Option.bind_some]
        generalize hld : (t + tof o l j) / 86400 = ld
        rw [beq_f (show ¬ stepD L = 0 by omega), w64_in (x := ld - L.2.2.1.1) (by omega) (by omega)]
        simp only [Bool.not_false, cond_true]
        obtain ⟨n, hn, hn2⟩ : ∃ n : Nat, (if w64 (Int.tdiv (ld - L.2.2.1.1) (stepD L)) > 0 then w64 (Int.tdiv (ld - L.2.2.1.1) (stepD L)) else 0) = (n : Int) ∧ (n : Int) ≤ 8589934592 := by
          by_cases hneg : 0 ≤ ld - L.2.2.1.1
          · rw [Int.tdiv_eq_ediv_of_nonneg hneg]
            have q0 : 0 ≤ (ld - L.2.2.1.1) / stepD L := Int.ediv_nonneg hneg (by omega)
            have q1 : (ld - L.2.2.1.1) / stepD L ≤ ld - L.2.2.1.1 := Int.ediv_le_self _ hneg
            rw [w64_in (by omega) (by omega)]
            refine ⟨((ld - L.2.2.1.1) / stepD L).toNat, ?_, ?_⟩
            · split <;> omega
            · omega
          · have e : Int.tdiv (ld - L.2.2.1.1) (stepD L) = -((-(ld - L.2.2.1.1)) / stepD L) := by
              rw [← Int.tdiv_eq_ediv_of_nonneg (by omega), Int.neg_tdiv, Int.neg_neg]
            have q0 : 0 ≤ (-(ld - L.2.2.1.1)) / stepD L := Int.ediv_nonneg (by omega) (by omega)
            have q1 : (-(ld - L.2.2.1.1)) / stepD L ≤ -(ld - L.2.2.1.1) := Int.ediv_le_self _ (by omega)
            rw [e, w64_in (by omega) (by omega), if_neg (by omega)]
            exact ⟨0, rfl, by omega⟩
        rw [hn]
        obtain ⟨k, e, k0, k1⟩ := sh_l0 ht h (Int.le_refl _) hq n hn2
        have hkb := k1
        obtain ⟨y, hy, _⟩ := hkb
        have hkk := hO_at ht h k0 hy
        obtain ⟨K, e2, K0, K1, K2⟩ := sh_l2 ht h (t := t) (2386093 - k).toNat k (by omega) k0 k1
        simp only [e, Option.bind_some, e2]
        exact ⟨K, rfl, .inr ⟨K0, K1, K2⟩⟩
end Go.Proofs.Pw
