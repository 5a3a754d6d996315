/- RecurExact. -/
import Derived.Test.YtielflihgdebiaaPF
import Derived.Test.YtielflihgdebiaaPB
import Derived.Test.YtielflihgdebiaaLD
open Go Go.Lft
namespace Go.Proofs.Pw

theorem odd10_ok {L : List Int} {a : Int} (h : DOk L a) (x : LayerT) : ∃ y a', law10_odd L a x = some (y, L, a') ∧ DOk L a' := by
  obtain ⟨r, a1, e1, r0, r1, d1⟩ := Next_ok (n := 6) h (by omega) (by omega)
  obtain ⟨p1, b1, f1, _, g1⟩ := Pick_ok d1 (xs := [(0 : Int), (1 : Int), (100000 : Int), (100001 : Int), (99000 : Int)]) (by simp) (by simp)
  obtain ⟨p2, b2, f2, _, g2⟩ := Pick_ok d1 (xs := [(-1 : Int), (0 : Int), (86399 : Int), (86400 : Int)]) (by simp) (by simp)
  obtain ⟨p3, b3, f3, _, g3⟩ := Pick_ok d1 (xs := [(-1 : Int), (0 : Int), (1 : Int), (2 : Int), (3 : Int)]) (by simp) (by simp)
  obtain ⟨p4, b4, f4, _, g4⟩ := Pick_ok d1 (xs := [(0 : Int), (1 : Int), (400 : Int), (401 : Int)]) (by simp) (by simp)
  simp only [law10_odd, e1, Option.bind_some, f1, f2, f3, f4]
  cases r == 0 with
  | true => exact ⟨_, _, rfl, g1⟩
  | false =>
  cases r == 1 with
  | true => exact ⟨_, _, rfl, g2⟩
  | false =>
  cases r == 2 with
  | true => exact ⟨_, _, rfl, g3⟩
  | false =>
  cases r == 3 with
  | true => exact ⟨_, _, rfl, g4⟩
  | false =>
  cases r == 4 with
  | true => exact ⟨_, _, rfl, d1⟩
  | false => exact ⟨_, _, rfl, d1⟩

section
variable {z : ZoneT} {l : TrL} (hz : ZTab z l) (h4 : Z4 z l)
include hz h4

theorem chk_any (L : LayerT) : recur_Check z L = some (if Rt L then 0 else 8) := by
  have e1 : recur_open (z.1, (z.2.1, z.2.2)) (L.1, L.2.1, (L.2.2.1.1, L.2.2.1.2), L.2.2.2.1, L.2.2.2.2.1, L.2.2.2.2.2.1, L.2.2.2.2.2.2.1, L.2.2.2.2.2.2.2.1, L.2.2.2.2.2.2.2.2) = _ := open_any hz L
  have _ := h4
  simp only [recur_Check, e1, Option.bind_some]
  by_cases h : Rt L
  · rw [dec_true h, if_pos h]; rfl
  · rw [dec_false h, if_neg h]; rfl

theorem rx_l2 (L : LayerT) {s2 s3 s4 : Int} {Ls : List LayerT} {s66 : Int} {xs D : List Int} {a : Int} : ∀ (n i : Nat), i + n = 4 →
    law10_RecurExact_l2 s2 s3 s4 Ls s66 xs (i : Int) z.1 z.2.1 z.2.2 L.1 L.2.1 L.2.2.1.1 L.2.2.1.2 L.2.2.2.1 L.2.2.2.2.1 L.2.2.2.2.2.1 L.2.2.2.2.2.2.1 L.2.2.2.2.2.2.2.1 L.2.2.2.2.2.2.2.2 D a =
      some (.inr (s2, s3, s4, Ls, s66, z.1, z.2.1, z.2.2, L.1, L.2.1, L.2.2.1.1, L.2.2.1.2, L.2.2.2.1, L.2.2.2.2.1, L.2.2.2.2.2.1, L.2.2.2.2.2.2.1, L.2.2.2.2.2.2.2.1, L.2.2.2.2.2.2.2.2, D, a))
  | 0, i, hi => by
    rw [law10_RecurExact_l2_eq]
    simp only [law10_RecurExact_l2_step]
    rw [dec_false (by omega), cond_false, lpK_inr]
  | n + 1, i, hi => by
    obtain ⟨r, e1, e2⟩ := hand_both hz h4 L (List.getD xs (Int.toNat (i : Int)) 0)
    rw [law10_RecurExact_l2_eq]
    simp only [law10_RecurExact_l2_step]
    rw [dec_true (by omega), inR_t (by omega) (by omega), w64_in (x := (i : Int) + 1) (by omega) (by omega)]
    simp only [cond_true]
    rw [show recur_Handover (z.1, (z.2.1, z.2.2)) (L.1, L.2.1, (L.2.2.1.1, L.2.2.1.2), L.2.2.2.1, L.2.2.2.2.1, L.2.2.2.2.2.1, L.2.2.2.2.2.2.1, L.2.2.2.2.2.2.2.1, L.2.2.2.2.2.2.2.2) _ = _ from e1, show r10_Handover (z.1, (z.2.1, z.2.2)) (L.1, L.2.1, (L.2.2.1.1, L.2.2.1.2), L.2.2.2.1, L.2.2.2.2.1, L.2.2.2.2.2.1, L.2.2.2.2.2.2.1, L.2.2.2.2.2.2.2.1, L.2.2.2.2.2.2.2.2) _ = _ from e2]
    simp only [Option.bind_some, bne_self_eq_false, cond_false, lpK_inl]
    exact rx_l2 L n (i + 1) (by omega)

theorem rx_l4 (L : LayerT) {s2 s3 s4 s23 : Int} {Ls : List LayerT} {s66 : Int} {xs D : List Int} {a : Int} : ∀ (n i : Nat), i + n = 4 →
    law10_RecurExact_l4 s2 s3 s4 s23 Ls s66 xs (i : Int) z.1 z.2.1 z.2.2 L.1 L.2.1 L.2.2.1.1 L.2.2.1.2 L.2.2.2.1 L.2.2.2.2.1 L.2.2.2.2.2.1 L.2.2.2.2.2.2.1 L.2.2.2.2.2.2.2.1 L.2.2.2.2.2.2.2.2 D a =
      some (.inr (s2, s3, s4, s23, Ls, s66, z.1, z.2.1, z.2.2, L.1, L.2.1, L.2.2.1.1, L.2.2.1.2, L.2.2.2.1, L.2.2.2.2.1, L.2.2.2.2.2.1, L.2.2.2.2.2.2.1, L.2.2.2.2.2.2.2.1, L.2.2.2.2.2.2.2.2, D, a))
  | 0, i, hi => by
    rw [law10_RecurExact_l4_eq]
    simp only [law10_RecurExact_l4_step]
    rw [dec_false (by omega), cond_false, lpK_inr]
  | n + 1, i, hi => by
    obtain ⟨r, e1, e2, _, _⟩ := shift_both hz h4 L (List.getD xs (Int.toNat (i : Int)) 0)
    obtain ⟨q, f1, f2⟩ := turn_both hz h4 L (List.getD xs (Int.toNat (i : Int)) 0)
    rw [law10_RecurExact_l4_eq]
    simp only [law10_RecurExact_l4_step]
    rw [dec_true (by omega), inR_t (by omega) (by omega), w64_in (x := (i : Int) + 1) (by omega) (by omega)]
    simp only [cond_true]
    rw [show recur_Shift (z.1, (z.2.1, z.2.2)) (L.1, L.2.1, (L.2.2.1.1, L.2.2.1.2), L.2.2.2.1, L.2.2.2.2.1, L.2.2.2.2.2.1, L.2.2.2.2.2.2.1, L.2.2.2.2.2.2.2.1, L.2.2.2.2.2.2.2.2) _ = _ from e1, show r10_Shift (z.1, (z.2.1, z.2.2)) (L.1, L.2.1, (L.2.2.1.1, L.2.2.1.2), L.2.2.2.1, L.2.2.2.2.1, L.2.2.2.2.2.1, L.2.2.2.2.2.2.1, L.2.2.2.2.2.2.2.1, L.2.2.2.2.2.2.2.2) _ = _ from e2]
    rw [show recur_Turn (z.1, (z.2.1, z.2.2)) (L.1, L.2.1, (L.2.2.1.1, L.2.2.1.2), L.2.2.2.1, L.2.2.2.2.1, L.2.2.2.2.2.1, L.2.2.2.2.2.2.1, L.2.2.2.2.2.2.2.1, L.2.2.2.2.2.2.2.2) _ = _ from f1, show r10_Turn (z.1, (z.2.1, z.2.2)) (L.1, L.2.1, (L.2.2.1.1, L.2.2.1.2), L.2.2.2.1, L.2.2.2.2.1, L.2.2.2.2.2.1, L.2.2.2.2.2.2.1, L.2.2.2.2.2.2.2.1, L.2.2.2.2.2.2.2.2) _ = _ from f2]
    simp only [Option.bind_some, bne_self_eq_false, cond_false, lpK_inl]
    exact rx_l4 L n (i + 1) (by omega)

theorem rx_l6 (L : LayerT) {s2 s3 s4 : Int} {Ls : List LayerT} {s66 : Int} {xs : List (List Int)} {D : List Int} {a : Int} : ∀ (n i : Nat), i + n = 3 →
    law10_RecurExact_l6 s2 s3 s4 Ls s66 xs (i : Int) z.1 z.2.1 z.2.2 L.1 L.2.1 L.2.2.1.1 L.2.2.1.2 L.2.2.2.1 L.2.2.2.2.1 L.2.2.2.2.2.1 L.2.2.2.2.2.2.1 L.2.2.2.2.2.2.2.1 L.2.2.2.2.2.2.2.2 D a =
      some (.inr (s2, s3, s4, Ls, s66, z.1, z.2.1, z.2.2, D, a))
  | 0, i, hi => by
    rw [law10_RecurExact_l6_eq]
    simp only [law10_RecurExact_l6_step]
    rw [dec_false (by omega), cond_false, lpK_inr]
  | n + 1, i, hi => by
    obtain ⟨r, e1, e2, e3⟩ := hands_both hz h4 L (List.getD (List.getD xs (Int.toNat (i : Int)) (List.replicate 2 (0 : Int))) 0 0) (List.getD (List.getD xs (Int.toNat (i : Int)) (List.replicate 2 (0 : Int))) 1 0)
    rw [law10_RecurExact_l6_eq]
    simp only [law10_RecurExact_l6_step]
    rw [dec_true (by omega), inR_t (by omega) (by omega), w64_in (x := (i : Int) + 1) (by omega) (by omega)]
    simp only [cond_true]
    rw [show recur_Handovers (z.1, (z.2.1, z.2.2)) (L.1, L.2.1, (L.2.2.1.1, L.2.2.1.2), L.2.2.2.1, L.2.2.2.2.1, L.2.2.2.2.2.1, L.2.2.2.2.2.2.1, L.2.2.2.2.2.2.2.1, L.2.2.2.2.2.2.2.2) _ _ = _ from e1, show r10_Handovers (z.1, (z.2.1, z.2.2)) (L.1, L.2.1, (L.2.2.1.1, L.2.2.1.2), L.2.2.2.1, L.2.2.2.2.1, L.2.2.2.2.2.1, L.2.2.2.2.2.2.1, L.2.2.2.2.2.2.2.1, L.2.2.2.2.2.2.2.2) _ _ = _ from e2]
    simp only [Option.bind_some, same_t (s := r.1) (by omega), Bool.not_true, bne_self_eq_false, cond_false, lpK_inl]
    exact rx_l6 L n (i + 1) (by omega)

theorem rx_l0 {s2 s3 s4 : Int} {Ls : List LayerT} {D : List Int} : ∀ (n i : Nat) (a : Int), i + n = 3 → DOk D a →
    law10_RecurExact_l0 s2 s3 s4 Ls (i : Int) z.1 z.2.1 z.2.2 D a = some (.inr ())
  | 0, i, a, hi, _ => by
    rw [law10_RecurExact_l0_eq]
    simp only [law10_RecurExact_l0_step]
    rw [dec_false (by omega), cond_false, lpK_inr]
  | n + 1, i, a, hi, hd => by
    rw [law10_RecurExact_l0_eq]
    simp only [law10_RecurExact_l0_step]
    generalize List.getD Ls (Int.toNat (i : Int)) (ByteArray.empty, ((0 : Int), (((0 : Int), (0 : Int)), ((0 : Int), ((0 : Int), (([] : (List Int)), (([] : (List (Int × Int))), ((0 : Int), (0 : Int))))))))) = L
    have c1 := chk_any hz h4 L
    have c2 := check10_any h4 L
    obtain ⟨x, a1, e1, x0, x1, d1⟩ := Next_ok (n := 9) hd (by omega) (by omega)
    obtain ⟨t, a2, e2, t0, t1, d2⟩ := Instant_ok d1
    have em : ∃ m, made_Mod s2 40 = some m := ⟨_, rfl⟩
    obtain ⟨m, em⟩ := em
    rw [dec_true (by omega), inR_t (by omega) (by omega)]
    simp only [cond_true]
    rw [show recur_Check (z.1, (z.2.1, z.2.2)) (L.1, L.2.1, (L.2.2.1.1, L.2.2.1.2), L.2.2.2.1, L.2.2.2.2.1, L.2.2.2.2.2.1, L.2.2.2.2.2.2.1, L.2.2.2.2.2.2.2.1, L.2.2.2.2.2.2.2.2) = _ from c1, show r10_Check (z.1, (z.2.1, z.2.2)) (L.1, L.2.1, (L.2.2.1.1, L.2.2.1.2), L.2.2.2.1, L.2.2.2.2.1, L.2.2.2.2.2.1, L.2.2.2.2.2.2.1, L.2.2.2.2.2.2.2.1, L.2.2.2.2.2.2.2.2) = _ from c2]
    simp only [Option.bind_some, bne_self_eq_false, cond_false, em, e1]
    have l2 := fun (xs : List Int) => rx_l2 hz h4 L (s2 := s2) (s3 := s3) (s4 := s4) (Ls := Ls) (s66 := (i : Int)) (xs := xs) (D := D) (a := a1) 4 0 (by omega)
    have l4 := fun (xs : List Int) => rx_l4 hz h4 L (s2 := s2) (s3 := s3) (s4 := s4) (s23 := t) (Ls := Ls) (s66 := (i : Int)) (xs := xs) (D := D) (a := a2) 4 0 (by omega)
    have l6 := fun (xs : List (List Int)) => rx_l6 hz h4 L (s2 := s2) (s3 := s3) (s4 := s4) (Ls := Ls) (s66 := (i : Int)) (xs := xs) (D := D) (a := a2) 3 0 (by omega)
    simp only [show ((0 : Nat) : Int) = 0 from rfl] at l2 l4 l6
    simp only [l2, Option.bind_some, sumC_inr, e2, l4, l6, w64_in (x := (i : Int) + 1) (show -9223372036854775808 ≤ _ by omega) (by omega), lpK_inl]
    exact rx_l0 n (i + 1) a2 (by omega) d2
end

theorem sane10_t : law10_sane = some true := sane10

theorem RecurExact_true (t : List Int) (_h : Wf (.list (.int .i64)) t) (raw : LayerT) (_h1 : Wf (.pair .str (.pair (.int .i64) (.pair (.pair (.int .i64) (.int .i64)) (.pair (.int .i64) (.pair (.int .i64) (.pair (.list (.int .i64)) (.pair (.list (.pair (.int .i64) (.int .i64))) (.pair (.int .i64) (.int .i64))))))))) raw)
    (k : Int) (_h2 : Wf (.int .i64) k) (x : Int) (_h3 : Wf (.int .i64) x) (to_ : Int) (_h5 : Wf (.int .i64) to_) : law10_RecurExact t raw k x to_ = some true := by
  simp only [law10_RecurExact, made_Light, Option.bind_some, show Int.ofNat (List.length t) = (t.length : Int) from rfl]
  by_cases hl : (t.length : Int) ≤ 500
  · rw [dec_true hl]
    simp only [Bool.not_true, cond_false, made_Roll, Option.bind_some]
    obtain ⟨zs, ps, cs, a1, e1, hs, d1⟩ := Staff_ok (L := t) (a := 0) ⟨by omega, by omega, by omega⟩
    have hz0 := hs.z0; have hz1 := hs.z1
    obtain ⟨i, a2, e2, i0, i1, d2⟩ := Next_ok (n := (zs.length : Int)) d1 (by omega) (by omega)
    obtain ⟨L, a3, e3, hL, z0, z1, d3⟩ := Layer_ok d2 hs (ss := []) (ByteArray.mk #[97])
    obtain ⟨L2, a4, e4, d4⟩ := odd10_ok d3 L
    have hlt : i.toNat < zs.length := by omega
    have hz : ZOk (zs.getD i.toNat (ByteArray.empty, ((0 : Int), ([] : List Rule)))) := by
      rw [List.getD_eq_getElem?_getD, List.getElem?_eq_getElem hlt]
      exact hs.ok _ (List.getElem_mem hlt)
    obtain ⟨hzt, hz4⟩ : ZTab (zs.getD i.toNat (ByteArray.empty, ((0 : Int), ([] : List Rule)))) _ ∧ Z4 (zs.getD i.toNat (ByteArray.empty, ((0 : Int), ([] : List Rule)))) _ := ⟨MZ.tab hz _, MZ.r4 hz _⟩
    simp only [e1, Option.bind_some, show Int.ofNat (List.length zs) = (zs.length : Int) from rfl, e2, e3]
    rw [inR_t i0 (by omega), cond_true, show law10_odd t a3 (L.1, L.2.1, (L.2.2.1.1, L.2.2.1.2), L.2.2.2.1, L.2.2.2.2.1, L.2.2.2.2.2.1, L.2.2.2.2.2.2.1, L.2.2.2.2.2.2.2.1, L.2.2.2.2.2.2.2.2) = _ from e4]
    simp only [Option.bind_some]
    generalize zs.getD i.toNat (ByteArray.empty, ((0 : Int), ([] : List Rule))) = z at *
    have lp := fun (Ls : List LayerT) => rx_l0 hzt hz4 (s2 := k) (s3 := x) (s4 := to_) (Ls := Ls) (D := t) 3 0 a4 (by omega) d4
    simp only [show ((0 : Nat) : Int) = 0 from rfl] at lp
    simp only [lp, Option.bind_some, sumC_inr, sane10_t]
  · rw [dec_false hl]
    simp only [Bool.not_false, cond_true, sane10_t, Option.bind_some]
end Go.Proofs.Pw
