/- The layers, edits and configurations that the dice make are right. -/
import Derived.Test.YtielflihgdebiaaGreatPD
import Derived.Test.YtielflihgdebiaaGreatPC
import Derived.Test.YtielflihgdebiaaGreatPA
open Go Go.Lft
namespace Go.Proofs.Pw

theorem Ly_l0 {L : List Int} {zs : List ZoneT} {ps : List PersonT} {cs : List CalT} {ss : List SchedT} (hp0 : 1 ≤ ps.length) (hp1 : ps.length ≤ 100) {x0 y0 : ByteArray} {x1 x2 x3 x4 x5 x6 x7 y1 y2 y3 y4 y5 y6 y7 : Int} : ∀ (n : Nat) (a : Int) (ms : List Int), DOk L a → ms.length + n ≤ 4 → (∀ m ∈ ms, 0 ≤ m ∧ m < (ps.length : Int)) →
    ∃ ms' a', made_Dice_Layer_l0 (n : Int) L a zs ps cs ss x0 x1 x2 x3 x4 x5 x6 x7 y0 y1 y2 y3 y4 y5 y6 y7 ms = some (L, a', zs, ps, cs, ss, x0, x1, x2, x3, x4, x5, x6, x7, y0, y1, y2, y3, y4, y5, y6, y7, ms') ∧ ms'.length = ms.length + n ∧ (∀ m ∈ ms', 0 ≤ m ∧ m < (ps.length : Int)) ∧ DOk L a'
  | 0, a, ms, hd, _, hm => by
    rw [made_Dice_Layer_l0_eq]
    simp only [made_Dice_Layer_l0_step]
    rw [dec_false (by omega), cond_false, lpK_inr]
    exact ⟨ms, a, rfl, rfl, hm, hd⟩
  | n + 1, a, ms, hd, hl, hm => by
    obtain ⟨x, a1, e1, x0', x1', d1⟩ := Next_ok (n := (ps.length : Int)) hd (by omega) (by omega)
    rw [made_Dice_Layer_l0_eq]
    simp only [made_Dice_Layer_l0_step, show Int.ofNat (List.length ps) = (ps.length : Int) from rfl]
    rw [dec_true (by omega), w64_in (x := ((n + 1 : Nat) : Int) - 1) (by omega) (by omega), show ((n + 1 : Nat) : Int) - 1 = (n : Int) by omega]
    simp only [cond_true, e1, Option.bind_some]
    rw [dec_true (by simp [sizeMax]; omega)]
    simp only [cond_true, lpK_inl]
    obtain ⟨ms', a', e, h1, h2, h3⟩ := Ly_l0 (zs := zs) (cs := cs) (ss := ss) hp0 hp1 (x0 := x0) (x1 := x1) (x2 := x2) (x3 := x3) (x4 := x4) (x5 := x5) (x6 := x6) (x7 := x7) (y0 := y0) (y1 := y1) (y2 := y2) (y3 := y3) (y4 := y4) (y5 := y5) (y6 := y6) (y7 := y7) n a1 (ms ++ [x]) d1 (by simp; omega) (fun m h => by
      rcases List.mem_append.1 h with h | h
      · exact hm m h
      · simp at h; subst h; exact ⟨x0', x1'⟩)
    exact ⟨ms', a', e, by rw [h1]; simp; omega, h2, h3⟩

theorem Layer2_ok {L : List Int} {a : Int} (h : DOk L a) {zs : List ZoneT} {ps : List PersonT} {cs : List CalT} {ss : List SchedT} (hs : SOk zs ps cs) (nm : ByteArray) :
    ∃ l a', made_Dice_Layer L a (zs, (ps, (cs, ss))) nm = some (l, L, a') ∧ LOk l ∧ LCk zs.length ps.length cs.length l ∧ l.1 = nm ∧ DOk L a' := by
  have hz0 := hs.z0; have hz1 := hs.z1; have hp0 := hs.p0; have hp1 := hs.p1; have hc1 := hs.c1
  obtain ⟨z, a1, e1, z0, z1, d1⟩ := Next_ok (n := (zs.length : Int)) h (by omega) (by omega)
  obtain ⟨x, a2, e2, x0, x1, d2⟩ := Next_ok (n := 6) d1 (by omega) (by omega)
  obtain ⟨s, a3, e3, m3, d3⟩ := Pick_ok d2 (xs := [(0 : Int), (32400 : Int), (7200 : Int), (9000 : Int), (79200 : Int), (1 : Int)]) (by simp) (by simp)
  obtain ⟨u, a4, e4, u0, u1, d4⟩ := Next_ok (n := 3) d3 (by omega) (by omega)
  obtain ⟨v, a5, e5, v0, v1, d5⟩ := Next_ok (n := 2) d4 (by omega) (by omega)
  have hs' : 0 ≤ s ∧ s ≤ 79200 := by simp at m3; omega
  simp only [made_Dice_Layer, show Int.ofNat (List.length zs) = (zs.length : Int) from rfl, e1, e2, e3, e4, e5, Option.bind_some]
  rw [w64_in (x := 20454 + x) (by omega) (by omega), w64_in (x := 20454 + x - 2) (by omega) (by omega), w64_in (x := 1 + v) (by omega) (by omega)]
  have fin : ∀ (ev : Int), 1 ≤ ev → ev ≤ 49 → (u ≠ 0 → ev ≤ 2) → ∀ ms : List Int, 1 ≤ ms.length → ms.length ≤ 3 → (∀ m ∈ ms, 0 ≤ m ∧ m < (ps.length : Int)) → ∀ (w : WL), WOk 0 w → w.length ≤ 3 → ∀ (c m : Int), 0 ≤ m → m ≤ 2 → (m ≠ 0 → 0 ≤ c ∧ c < (cs.length : Int)) → (m = 0 → c = 0) → ∀ (a' : Int), DOk L a' →
      ∃ l a'', some ((nm, (z, ((20454 + x - 2, s), (u, (ev, (ms, (w, (c, m)))))))), L, a') = some (l, L, a'') ∧ LOk l ∧ LCk zs.length ps.length cs.length l ∧ l.1 = nm ∧ DOk L a'' :=
    fun ev h1 h2 h3 ms h4 h5 hmem w hw hwl c m hm0 hm1 hmc hmz a' hd => ⟨_, _, rfl, ⟨by dsimp only; omega, by dsimp only; omega, hs'.1, hs'.2, u0, by dsimp only; omega, h1, h2, h3, h4, h5⟩,
      ⟨z0, z1, by dsimp only; omega, day_ok (by dsimp only; omega) (by dsimp only; omega), hs'.1, by dsimp only; omega, u0, by dsimp only; omega, h1, by dsimp only; omega, by dsimp only; omega, by dsimp only; omega, hmem, hw, by dsimp only; omega, hm0, hm1, hmc, hmz⟩, rfl, hd⟩
  have rest : ∀ (ev : Int), 1 ≤ ev → ev ≤ 49 → (u ≠ 0 → ev ≤ 2) → ∀ (ms : List Int), 1 ≤ ms.length → ms.length ≤ 3 → (∀ m ∈ ms, 0 ≤ m ∧ m < (ps.length : Int)) → ∀ (w : WL), WOk 0 w → w.length ≤ 3 → ∀ (a9 : Int), DOk L a9 →
      ∃ l a'', ((made_Dice_Bool L a9 4).bind fun r => cond (cond r.1 (decide ((cs.length : Int) > 0)) false) ((made_Dice_Next r.2.1 r.2.2 (cs.length : Int)).bind fun r70 => (made_Dice_Next r70.2.1 r70.2.2 2).bind fun r72 => some ((nm, (z, ((20454 + x - 2, s), (u, (ev, (ms, (w, (r70.1, w64 (1 + r72.1))))))))), r72.2.1, r72.2.2))
        (some ((nm, (z, ((20454 + x - 2, s), (u, (ev, (ms, (w, ((0 : Int), (0 : Int))))))))), r.2.1, r.2.2))) = some (l, L, a'') ∧ LOk l ∧ LCk zs.length ps.length cs.length l ∧ l.1 = nm ∧ DOk L a'' := by
    intro ev h1 h2 h3 ms h4 h5 hmem w hw hwl a9 d9
    obtain ⟨c, a11, e11, d11⟩ := Bool_ok (n := 4) d9 (by omega) (by omega)
    simp only [e11, Option.bind_some]
    by_cases hcc : c = true ∧ (cs.length : Int) > 0
    · obtain ⟨i, a12, e12, i0, i1, d12⟩ := Next_ok (n := (cs.length : Int)) d11 (by omega) (by omega)
      obtain ⟨j, a13, e13, j0, j1, d13⟩ := Next_ok (n := 2) d12 (by omega) (by omega)
      rw [hcc.1, dec_true hcc.2]
      simp only [cond_true, e12, e13, Option.bind_some, w64_in (x := 1 + j) (show -9223372036854775808 ≤ _ by omega) (by omega)]
      exact fin ev h1 h2 h3 ms h4 h5 hmem w hw hwl i (1 + j) (by omega) (by omega) (fun _ => ⟨i0, i1⟩) (fun hh => by omega) _ d13
    · have hc0 : cond c (decide ((cs.length : Int) > 0)) false = false := by
        cases c with
        | true => exact dec_false (fun h => hcc ⟨rfl, h⟩)
        | false => rfl
      rw [hc0]
      simp only [cond_false]
      exact fin ev h1 h2 h3 ms h4 h5 hmem w hw hwl 0 0 (by omega) (by omega) (fun hh => absurd rfl hh) (fun _ => rfl) _ d11
  have nilW : WOk 0 ([] : WL) := show (0 : Int) ≤ 604800 by omega
  by_cases hu : u = 0
  · rw [beq_t hu, cond_true]
    obtain ⟨ev, a6, e6, m6, d6⟩ := Pick_ok d5 (xs := [(6 : Int), (8 : Int), (12 : Int), (24 : Int), (23 : Int), (49 : Int)]) (by simp) (by simp)
    have hev : 1 ≤ ev ∧ ev ≤ 49 := by simp at m6; omega
    obtain ⟨n, a7, e7, n0, n1, d7⟩ := Next_ok (n := 3) d6 (by omega) (by omega)
    obtain ⟨ms, a8, e8, l8, k8, d8⟩ := Ly_l0 (L := L) (zs := zs) (ps := ps) (cs := cs) (ss := ss) hp0 (by omega) (x0 := ByteArray.empty) (x1 := 0) (x2 := 0) (x3 := 0) (x4 := 0) (x5 := 0) (x6 := 0) (x7 := 0) (y0 := nm) (y1 := z) (y2 := 20454 + x - 2) (y3 := s) (y4 := u) (y5 := ev) (y6 := 0) (y7 := 0) (1 + n).toNat a7 [] d7 (by simp; omega) (by simp)
    rw [show (((1 + n).toNat : Nat) : Int) = 1 + n by omega] at e8
    simp at l8
    obtain ⟨b, a9, e9, d9⟩ := Bool_ok (n := 2) d8 (by omega) (by omega)
    simp only [e6, e7, Option.bind_some]
    rw [w64_in (x := 1 + n) (by omega) (by omega)]
    simp only [e8, e9, Option.bind_some, show Int.ofNat (List.length cs) = (cs.length : Int) from rfl]
    cases b with
    | true =>
      obtain ⟨w, a10, e10, hw, hwl, d10⟩ := Windows_ok d9
      simp only [cond_true, e10, Option.bind_some]
      exact rest ev hev.1 hev.2 (fun h => absurd hu h) ms (by omega) (by omega) k8 w hw hwl a10 d10
    | false =>
      simp only [cond_false]
      exact rest ev hev.1 hev.2 (fun h => absurd hu h) ms (by omega) (by omega) k8 [] nilW (by simp) a9 d9
  · rw [beq_f hu, cond_false]
    obtain ⟨n, a7, e7, n0, n1, d7⟩ := Next_ok (n := 3) d5 (by omega) (by omega)
    obtain ⟨ms, a8, e8, l8, k8, d8⟩ := Ly_l0 (L := L) (zs := zs) (ps := ps) (cs := cs) (ss := ss) hp0 (by omega) (x0 := ByteArray.empty) (x1 := 0) (x2 := 0) (x3 := 0) (x4 := 0) (x5 := 0) (x6 := 0) (x7 := 0) (y0 := nm) (y1 := z) (y2 := 20454 + x - 2) (y3 := s) (y4 := u) (y5 := 1 + v) (y6 := 0) (y7 := 0) (1 + n).toNat a7 [] d7 (by simp; omega) (by simp)
    rw [show (((1 + n).toNat : Nat) : Int) = 1 + n by omega] at e8
    simp at l8
    obtain ⟨b, a9, e9, d9⟩ := Bool_ok (n := 2) d8 (by omega) (by omega)
    simp only [e7, Option.bind_some]
    rw [w64_in (x := 1 + n) (by omega) (by omega)]
    simp only [e8, e9, Option.bind_some, show Int.ofNat (List.length cs) = (cs.length : Int) from rfl]
    cases b with
    | true =>
      obtain ⟨w, a10, e10, hw, hwl, d10⟩ := Windows_ok d9
      simp only [cond_true, e10, Option.bind_some]
      exact rest (1 + v) (by omega) (by omega) (fun _ => by omega) ms (by omega) (by omega) k8 w hw hwl a10 d10
    | false =>
      simp only [cond_false]
      exact rest (1 + v) (by omega) (by omega) (fun _ => by omega) ms (by omega) (by omega) k8 [] nilW (by simp) a9 d9

theorem Edit_ok {L : List Int} {a : Int} (h : DOk L a) {zs : List ZoneT} {ps : List PersonT} {cs : List CalT} {ss : List SchedT} (hp0 : 1 ≤ ps.length) (hp1 : ps.length ≤ 4) :
    ∃ x a', made_Dice_Edit L a (zs, (ps, (cs, ss))) = some (x, L, a') ∧ ECk ps.length x ∧ DOk L a' := by
  obtain ⟨k, a1, e1, k0, k1, d1⟩ := Next_ok (n := 3) h (by omega) (by omega)
  obtain ⟨p, a2, e2, p0, p1, d2⟩ := Next_ok (n := (ps.length : Int)) d1 (by omega) (by omega)
  obtain ⟨t, a3, e3, t0, t1, d3⟩ := Instant_ok d2
  obtain ⟨y, a4, e4, m4, d4⟩ := Pick_ok d3 (xs := [(3600 : Int), (86400 : Int), (7 : Int), (259200 : Int), (40000 : Int)]) (by simp) (by simp)
  have hy : 7 ≤ y ∧ y ≤ 259200 := by simp at m4; omega
  have hday : resolve_day (Int.tdiv (t + y) 86400) = some true := by
    rw [tdiv_nn (by omega)]
    exact day_ok (by omega) (by omega)
  simp only [made_Dice_Edit, show Int.ofNat (List.length ps) = (ps.length : Int) from rfl, e1, e2, e3, e4, Option.bind_some]
  rw [w64_in (x := t + y) (by omega) (by omega)]
  have fin : ∀ (kd A B : Int), 0 ≤ kd → kd ≤ 2 → (0 ≤ A ∧ A < (ps.length : Int) ∨ kd = 1 ∧ A = -1) → (kd = 2 → 0 ≤ B ∧ B < (ps.length : Int) ∧ A ≠ B) → (kd ≠ 2 → B = 0) → ∀ a', DOk L a' → ∃ x a'', some ((kd, (A, (B, (t, t + y)))), L, a') = some (x, L, a'') ∧ ECk ps.length x ∧ DOk L a'' :=
    fun kd A B h1 h2 h3 h4 h5 a' hd => ⟨_, _, rfl, ⟨h1, h2, h3, h4, h5, by dsimp only; omega, by dsimp only; omega, by dsimp only; omega, hday⟩, hd⟩
  by_cases h2 : k = 2
  · rw [beq_t h2, cond_true]
    by_cases hn : (ps.length : Int) < 2
    · rw [dec_true hn, cond_true]
      exact fin 0 p 0 (by omega) (by omega) (.inl ⟨p0, p1⟩) (fun hh => by omega) (fun _ => rfl) _ d4
    · rw [dec_false hn, cond_false, w64_in (x := (ps.length : Int) - 1) (by omega) (by omega)]
      obtain ⟨q, a5, e5, q0, q1, d5⟩ := Next_ok (n := (ps.length : Int) - 1) d4 (by omega) (by omega)
      simp only [e5, Option.bind_some]
      rw [w64_in (x := p + 1) (by omega) (by omega), w64_in (x := p + 1 + q) (by omega) (by omega), beq_f (show ¬ (ps.length : Int) = 0 by omega), beq_f (show ¬ k = 1 by omega), tmod_nn (by omega)]
      simp only [Bool.not_false, cond_true, cond_false]
      have b0 : 0 ≤ (p + 1 + q) % (ps.length : Int) := Int.emod_nonneg _ (by omega)
      have b1 : (p + 1 + q) % (ps.length : Int) < (ps.length : Int) := Int.emod_lt_of_pos _ (by omega)
      have hne : p ≠ (p + 1 + q) % (ps.length : Int) := by
        by_cases hb : p + 1 + q < (ps.length : Int)
        · rw [Int.emod_eq_of_lt (by omega) hb]; omega
        · rw [← Int.sub_emod_right, Int.emod_eq_of_lt (by omega) (by omega)]; omega
      exact fin k p _ k0 (by omega) (.inl ⟨p0, p1⟩) (fun _ => ⟨b0, b1, hne⟩) (fun hh => absurd h2 hh) _ d5
  · rw [beq_f h2, cond_false]
    by_cases h1 : k = 1
    · rw [beq_t h1, cond_true]
      obtain ⟨b, a5, e5, d5⟩ := Bool_ok (n := 4) d4 (by omega) (by omega)
      simp only [e5, Option.bind_some]
      cases b with
      | true => exact fin k (-1) 0 k0 (by omega) (.inr ⟨h1, rfl⟩) (fun hh => absurd hh h2) (fun _ => rfl) _ d5
      | false => exact fin k p 0 k0 (by omega) (.inl ⟨p0, p1⟩) (fun hh => absurd hh h2) (fun _ => rfl) _ d5
    · rw [beq_f h1, cond_false]
      exact fin k p 0 k0 (by omega) (.inl ⟨p0, p1⟩) (fun hh => absurd hh h2) (fun _ => rfl) _ d4

theorem Cf_l2 {L : List Int} {s6 : Int} {nm : ByteArray} {zs : List ZoneT} {ps : List PersonT} {cs : List CalT} {ss : List SchedT} (hs : SOk zs ps cs) : ∀ (n : Nat) (a : Int) (ls : List LayerT), DOk L a → ls.length + n ≤ 4 → (∀ x ∈ ls, LCk zs.length ps.length cs.length x) → ls.map (·.1) = nmsL.take ls.length →
    ∃ ls' a', made_Dice_Config_l2 s6 (n : Int) L a zs ps cs nm ss ls = some (s6, L, a', zs, ps, cs, nm, ss, ls') ∧ ls'.length ≤ 4 ∧ (∀ x ∈ ls', LCk zs.length ps.length cs.length x) ∧ ls'.map (·.1) = nmsL.take ls'.length ∧ DOk L a'
  | 0, a, ls, hd, hl, hk, hn => by
    rw [made_Dice_Config_l2_eq]
    simp only [made_Dice_Config_l2_step]
    rw [dec_false (by omega), cond_false, lpK_inr]
    exact ⟨ls, a, rfl, by omega, hk, hn, hd⟩
  | n + 1, a, ls, hd, hl, hk, hn => by
    have hnm : ls.length < nmsL.length := by show ls.length < 8; omega
    obtain ⟨l, a1, e1, _, l2, l3, d1⟩ := Layer2_ok (ss := ss) hd hs (nmsL.getD ls.length ByteArray.empty)
    rw [made_Dice_Config_l2_eq]
    simp only [made_Dice_Config_l2_step, names_eq, Option.bind_some, show Int.ofNat (List.length ls) = (ls.length : Int) from rfl]
    rw [dec_true (by omega), inR_t (show (0 : Int) ≤ (ls.length : Int) by omega) (by omega), w64_in (x := ((n + 1 : Nat) : Int) - 1) (by omega) (by omega), show ((n + 1 : Nat) : Int) - 1 = (n : Int) by omega]
    simp only [cond_true, Int.toNat_natCast, e1, Option.bind_some]
    rw [dec_true (by simp [sizeMax]; omega)]
    simp only [cond_true, lpK_inl]
    exact Cf_l2 hs n a1 (ls ++ [l]) d1 (by simp; omega) (fun x hx => by
      rcases List.mem_append.1 hx with h | h
      · exact hk x h
      · simp at h; subst h; exact l2) (by
      rw [List.map_append, hn, List.length_append, List.map_cons, List.map_nil, l3]
      exact take_nm hnm)

theorem Cf_l4 {L : List Int} {s6 : Int} {nm : ByteArray} {zs : List ZoneT} {ps : List PersonT} {cs : List CalT} {ss : List SchedT} {ls : List LayerT} (hs : SOk zs ps cs) : ∀ (n : Nat) (a : Int) (es : List EditT), DOk L a → es.length + n ≤ 4 → (∀ x ∈ es, ECk ps.length x) →
    ∃ es' a', made_Dice_Config_l4 s6 (n : Int) L a zs ps cs nm ss ls es = some (s6, L, a', zs, ps, cs, nm, ss, ls, es') ∧ es'.length ≤ 4 ∧ (∀ x ∈ es', ECk ps.length x) ∧ DOk L a'
  | 0, a, es, hd, hl, hk => by
    rw [made_Dice_Config_l4_eq]
    simp only [made_Dice_Config_l4_step]
    rw [dec_false (by omega), cond_false, lpK_inr]
    exact ⟨es, a, rfl, by omega, hk, hd⟩
  | n + 1, a, es, hd, hl, hk => by
    obtain ⟨x, a1, e1, x1, d1⟩ := Edit_ok (zs := zs) (cs := cs) (ss := ss) hd hs.p0 hs.p1
    rw [made_Dice_Config_l4_eq]
    simp only [made_Dice_Config_l4_step]
    rw [dec_true (by omega), w64_in (x := ((n + 1 : Nat) : Int) - 1) (by omega) (by omega), show ((n + 1 : Nat) : Int) - 1 = (n : Int) by omega]
    simp only [cond_true, e1, Option.bind_some]
    rw [dec_true (by simp [sizeMax]; omega)]
    simp only [cond_true, lpK_inl]
    exact Cf_l4 hs n a1 (es ++ [x]) d1 (by simp; omega) (fun y hy => by
      rcases List.mem_append.1 hy with h | h
      · exact hk y h
      · simp at h; subst h; exact x1)

theorem Config1_ok {L : List Int} {a : Int} (h : DOk L a) : ∃ zs ps cs ss a', made_Dice_Config L a 1 = some ((zs, (ps, (cs, ss))), L, a') ∧ SOk2 zs ps cs ∧ ss.length = 1 ∧ NmL (ss.map (·.1)) ∧ (∀ s ∈ ss, SCk zs.length ps.length cs.length s) ∧ DOk L a' := by
  obtain ⟨zs, ps, cs, a1, e1, hs, d1⟩ := Staff2_ok h
  obtain ⟨x, a2, e2, x0, x1, d2⟩ := Next_ok (n := 1) d1 (by omega) (by omega)
  have hx : x = 0 := by omega
  subst hx
  obtain ⟨k, a3, e3, k0, k1, d3⟩ := Next_ok (n := 4) d2 (by omega) (by omega)
  obtain ⟨ls, a4, e4, l4, lk, ln, d4⟩ := Cf_l2 (s6 := 1) (nm := ByteArray.mk #[102, 105, 114, 115, 116]) (ss := []) hs.so k.toNat a3 [] d3 (by simp; omega) (by simp) rfl
  obtain ⟨m, a5, e5, m0, m1, d5⟩ := Next_ok (n := 4) d4 (by omega) (by omega)
  obtain ⟨es, a6, e6, l6, ek, d6⟩ := Cf_l4 (s6 := 1) (nm := ByteArray.mk #[102, 105, 114, 115, 116]) (zs := zs) (cs := cs) (ss := []) (ls := ls) hs.so m.toNat a5 [] d5 (by simp; omega) (by simp)
  rw [show ((k.toNat : Nat) : Int) = k by omega] at e4
  rw [show ((m.toNat : Nat) : Int) = m by omega] at e6
  simp only [made_Dice_Config, e1, e2, Option.bind_some]
  rw [w64_in (x := 1 + 0) (by omega) (by omega), show (1 : Int) + 0 = 1 by omega]
  rw [made_Dice_Config_l0_eq]
  simp only [made_Dice_Config_l0_step]
  rw [dec_true (show (1 : Int) > 0 by omega)]
  simp only [cond_true, List.length_nil, show Int.tmod (Int.ofNat 0) 3 = 0 from rfl]
  rw [inR_t (show (0 : Int) ≤ 0 by omega) (by simp)]
  simp only [cond_true, e3, Option.bind_some]
  rw [show made_Dice_Config_l2 1 k L a3 zs ps cs (List.getD [(ByteArray.mk #[102, 105, 114, 115, 116]), (ByteArray.mk #[115, 101, 99, 111, 110, 100]), (ByteArray.mk #[116, 104, 105, 114, 100])] (Int.toNat 0) ByteArray.empty) [] [] = _ from e4]
  simp only [Option.bind_some, e5, e6]
  rw [dec_true (by simp [sizeMax]), w64_in (x := (1 : Int) - 1) (by omega) (by omega)]
  simp only [cond_true, lpK_inl]
  rw [made_Dice_Config_l0_eq]
  simp only [made_Dice_Config_l0_step]
  rw [dec_false (by omega), cond_false, lpK_inr]
  refine ⟨zs, ps, cs, _, a6, rfl, hs, rfl, NmL.one nm_first, fun s hs' => ?_, d6⟩
  simp at hs'; subst hs'
  exact ⟨by dsimp only; rw [ln]; exact nmsL_ok.take _, lk, by dsimp only; omega, ek, by dsimp only; omega⟩

theorem cfg_of {zs : List ZoneT} {ps : List PersonT} {cs : List CalT} {ss : List SchedT} (hs : SOk2 zs ps cs) (h0 : ss.length ≤ 12) (h1 : NmL (ss.map (·.1))) (h2 : ∀ s ∈ ss, SCk zs.length ps.length cs.length s) : CfgOk (zs, (ps, (cs, ss))) := by
  have hz1 := hs.so.z1; have hp1 := hs.so.p1; have hc1 := hs.so.c1
  exact ⟨by dsimp only; rw [hs.z.nm]; exact nmsZ_ok.take _, hs.z.ck, by dsimp only; omega, by dsimp only; rw [hs.p.nm]; exact nmsL_ok.take _, hs.p.ck, by dsimp only; omega, hs.c.nm, hs.c.ck, by dsimp only; omega, h1, h2, h0⟩

theorem fits_ok {zs : List ZoneT} {ps : List PersonT} {cs : List CalT} {ss : List SchedT} (hs : SOk2 zs ps cs) (h0 : ss.length ≤ 12) (h1 : NmL (ss.map (·.1))) (h2 : ∀ s ∈ ss, SCk zs.length ps.length cs.length s) {l : LayerT} (hl : LCk zs.length ps.length cs.length l) (hn : lexer_Name l.1 = some true) :
    duty_fits (zs, (ps, (cs, ss))) l = some true := by
  have e1 := ResCheck_ok (cfg_of hs h0 h1 h2)
  have e2 := ResCheck_ok (cfg_of (ss := [((ByteArray.mk #[97]), ([l], ([] : List EditT)))]) hs (by simp) (NmL.one nm_a) (fun s h => by
    simp at h; subst h
    exact ⟨NmL.one hn, fun x hx => by simp at hx; subst hx; exact hl, by simp, by simp, by simp⟩))
  simp only [duty_fits, e1, Option.bind_some, bne_self_eq_false, cond_false]
  rw [show resolve_Check (zs, ps, cs, [(ByteArray.mk #[97], [(l.1, l.2.1, (l.2.2.1.1, l.2.2.1.2), l.2.2.2.1, l.2.2.2.2.1, l.2.2.2.2.2.1, l.2.2.2.2.2.2.1, l.2.2.2.2.2.2.2.1, l.2.2.2.2.2.2.2.2)], [])]) = _ from e2]
  rfl
end Go.Proofs.Pw

/- Chapter 10: handovers. -/
open Go Go.Lft
namespace Go.Proofs.Pw

/-- The first instant at which the clock shows at least this, and its piece. -/
structure Fst (o : Int) (l : TrL) (s t : Int) (k : Nat) : Prop where
  hk : k ≤ l.length
  hks : s - tof o l k < frm l (k + 1)
  bef : ∀ j, j < k → frm l (j + 1) ≤ s - tof o l j
  ht : t = max (frm l k) (s - tof o l k)

def Dif (o : Int) (l : TrL) : Prop := ∀ i, i < l.length → -86400 < tof o l (i + 1) - tof o l i ∧ tof o l (i + 1) - tof o l i < 86400

section
variable {o : Int} {l : TrL} (h : TOk o l)
include h

theorem ex_first {s : Int} (h1 : s ≤ 8000000000) : ∃ t k, Fst o l s t k := by
  have o1 := h.of0 l.length (by omega)
  have he := frm_end (l := l)
  obtain ⟨a, ⟨ha, haN⟩, hmin⟩ := least (fun j => s - tof o l j < frm l (j + 1) ∧ j ≤ l.length) l.length ⟨by rw [he]; omega, by omega⟩
  refine ⟨_, a, haN, ha, fun j hj => ?_, rfl⟩
  rcases Int.lt_or_le (s - tof o l j) (frm l (j + 1)) with h' | h'
  · have := hmin j ⟨h', by omega⟩; omega
  · exact h'

theorem Fst.piece {s t : Int} {k : Nat} (f : Fst o l s t k) : frm l k ≤ t ∧ t < frm l (k + 1) ∧ s ≤ t + tof o l k := by
  have h1 := h.frm_lt f.hk
  have h2 := f.hks
  have h3 := f.ht
  omega

theorem Fst.up {s s' t t' : Int} {k k' : Nat} (hd : Dif o l) (hs : 200000 < s) (he : s + 86400 ≤ s') (f : Fst o l s t k) (g : Fst o l s' t' k') : t < t' := by
  obtain ⟨p1, p2, p3⟩ := f.piece h
  obtain ⟨q1, q2, q3⟩ := g.piece h
  have g1 := g.hks
  have g2 := g.ht
  have f2 := f.ht
  have hkN := f.hk
  have hkN' := g.hk
  rcases Nat.lt_trichotomy k k' with hlt | heq | hgt
  · have m1 := h.frm_le (i := k + 1) (j := k') (by omega) (by omega)
    omega
  · subst heq
    by_cases h0 : k = 0
    · subst h0
      have e0 : frm l 0 = 0 := frm0
      have o1 := h.of1 0 (by omega)
      omega
    · obtain ⟨j, rfl⟩ : ∃ j, k = j + 1 := ⟨k - 1, by omega⟩
      have b := f.bef j (by omega)
      have d := hd j (by omega)
      omega
  · have := f.bef k' hgt
    omega

end

noncomputable def fstI (o : Int) (l : TrL) (s : Int) : Int := open Classical in if h : ∃ t k, Fst o l s t k then Classical.choose h else 0
theorem fstI_ok {o : Int} {l : TrL} (h : TOk o l) {s : Int} (h1 : s ≤ 8000000000) : ∃ k, Fst o l s (fstI o l s) k := by
  have he := ex_first h h1
  unfold fstI
  rw [dif_pos he]
  exact Classical.choose_spec he

def stepD (L : LayerT) : Int := if L.2.2.2.1 = 2 then 7 * L.2.2.2.2.1 else L.2.2.2.2.1
def sLoc (L : LayerT) (k : Int) : Int := (L.2.2.1.1 + k * stepD L) * 86400 + L.2.2.1.2
noncomputable def hov (o : Int) (l : TrL) (L : LayerT) (k : Int) : Int := if L.2.2.2.1 = 0 then fstI o l (sLoc L 0) + 3600 * L.2.2.2.2.1 * k else fstI o l (sLoc L k)

/-- Layers that the functions take. -/
structure LR (L : LayerT) : Prop where
  d0 : 100 ≤ L.2.2.1.1
  d1 : L.2.2.1.1 ≤ 30000
  c0 : 0 ≤ L.2.2.1.2
  c1 : L.2.2.1.2 ≤ 86399
  u0 : 0 ≤ L.2.2.2.1
  u1 : L.2.2.2.1 ≤ 2
  e0 : 1 ≤ L.2.2.2.2.1
  e1 : L.2.2.2.2.1 ≤ 49
  m0 : 1 ≤ L.2.2.2.2.2.1.length
  m1 : L.2.2.2.2.2.1.length ≤ 1000

theorem LOk.lr {L : LayerT} (h : LOk L) : LR L := ⟨by have := h.d0; omega, by have := h.d1; omega, h.c0, by have := h.c1; omega, h.u0, h.u1, h.e0, h.e1, h.m0, by have := h.m1; omega⟩

theorem LR.step {L : LayerT} (h : LR L) : 1 ≤ stepD L ∧ stepD L ≤ 343 := by
  have := h.e0; have := h.e1
  unfold stepD; split <;> omega

theorem hov_up {o : Int} {l : TrL} (ht : TOk o l) (hd : Dif o l) {L : LayerT} (h : LR L) {k : Int} (hk : 0 ≤ k) (hk3 : L.2.2.2.1 ≠ 0 → (k + 1) * stepD L ≤ 50000) : hov o l L k < hov o l L (k + 1) := by
  have hs := h.step
  have hd0 := h.d0; have hd1 := h.d1; have hc0 := h.c0; have hc1 := h.c1; have he0 := h.e0; have he1 := h.e1
  unfold hov
  by_cases h0 : L.2.2.2.1 = 0
  · rw [if_pos h0, if_pos h0, Int.mul_add]
    omega
  · have hk3 := hk3 h0
    rw [if_neg h0, if_neg h0]
    have hm0 : 0 ≤ k * stepD L := Int.mul_nonneg hk (by omega)
    have hmul : (k + 1) * stepD L = k * stepD L + stepD L := by rw [Int.add_mul, Int.one_mul]
    rw [hmul] at hk3
    obtain ⟨j, f⟩ := fstI_ok ht (s := sLoc L k) (by unfold sLoc; omega)
    obtain ⟨j', f'⟩ := fstI_ok ht (s := sLoc L (k + 1)) (by unfold sLoc; rw [hmul]; omega)
    exact Fst.up ht hd (by unfold sLoc; omega) (by unfold sLoc; rw [hmul]; omega) f f'

end Go.Proofs.Pw

/- Chapter 4: offsets at instants, the horizon, transitions. -/
open Go Go.Lft
namespace Go.Proofs.Pw

section
variable {o : Int} {l : TrL} (h : TOk o l)
include h

end
end Go.Proofs.Pw

/- Chapter 1: the reference's answers are the program's. -/
open Go Go.Lft
namespace Go.Proofs.Pw

theorem r01_Leap_eq (y : Int) : r01_Leap y = some (leapB y) := Leap_eq y

theorem r01_Days_eq (y m : Int) : r01_Days y m = some (dim y m) := by
  by_cases h : m < 1 ∨ 12 < m
  · have hk : ∀ k : Int, 1 ≤ k → k ≤ 12 → (m == k) = false := fun k h1 h2 => beq_f (by omega)
    have : dim y m = 0 := if_pos h
    rw [this]
    simp only [r01_Days, hk 1 (by omega) (by omega), hk 2 (by omega) (by omega), hk 3 (by omega) (by omega), hk 4 (by omega) (by omega), hk 5 (by omega) (by omega), hk 6 (by omega) (by omega), hk 7 (by omega) (by omega),
      hk 8 (by omega) (by omega), hk 9 (by omega) (by omega), hk 10 (by omega) (by omega), hk 11 (by omega) (by omega), hk 12 (by omega) (by omega), cond_false]
  · obtain rfl | rfl | rfl | rfl | rfl | rfl | rfl | rfl | rfl | rfl | rfl | rfl : m = 1 ∨ m = 2 ∨ m = 3 ∨ m = 4 ∨ m = 5 ∨ m = 6 ∨ m = 7 ∨ m = 8 ∨ m = 9 ∨ m = 10 ∨ m = 11 ∨ m = 12 := by omega
    case inr.inl =>
      have e : r01_Days y 2 = (r01_Leap y).bind fun r => cond r (some (29 : Int)) (some (28 : Int)) := rfl
      rw [e, r01_Leap_eq, dim, leapI_eq]
      simp only [Option.bind_some]
      cases leapB y <;> rfl
    all_goals rfl

theorem r01_Valid_eq (y m d : Int) : r01_Valid (y, m, d) = some (decide (valid y m d)) := by
  simp only [r01_Valid, r01_Days_eq, Option.bind_some]
  by_cases hv : valid y m d
  · have hm := valid_month hv
    have hv' := hv
    obtain ⟨a1, a2, a3, a4⟩ := hv
    rw [dec_true (show y ≥ 1970 from a1), dec_true a2, dec_true (show m ≥ 1 from hm.1), dec_true hm.2, dec_true (show d ≥ 1 from a3), dec_true a4, dec_true hv']; rfl
  · rw [dec_false hv]
    by_cases a1 : y ≥ 1970
    · by_cases a2 : y ≤ 2240
      · by_cases a3 : m ≥ 1
        · by_cases a4 : m ≤ 12
          · by_cases a5 : d ≥ 1
            · rw [dec_true a1, dec_true a2, dec_true a3, dec_true a4, dec_true a5, dec_false (show ¬ d ≤ dim y m from fun h => hv ⟨a1, a2, a5, h⟩)]; rfl
            · rw [dec_true a1, dec_true a2, dec_true a3, dec_true a4, dec_false a5]; rfl
          · rw [dec_true a1, dec_true a2, dec_true a3, dec_false a4]; rfl
        · rw [dec_true a1, dec_true a2, dec_false a3]; rfl
      · rw [dec_true a1, dec_false a2]; rfl
    · rw [dec_false a1]; rfl

theorem r01_year_eq (y : Int) (h1 : 1969 ≤ y) (h2 : y ≤ 1000000000) : r01_year y = some (cnt y) := by
  simp only [r01_year]
  rw [w64_in (x := y - 1970) (by omega) (by omega), w64_in (x := y - 1969) (by omega) (by omega), w64_in (x := y - 1901) (by omega) (by omega), w64_in (x := y - 1601) (by omega) (by omega)]
  rw [tdiv_nn (show 0 ≤ y - 1969 by omega), tdiv_nn (show 0 ≤ y - 1901 by omega), tdiv_nn (show 0 ≤ y - 1601 by omega)]
  simp (disch := omega) only [w64_in]
  congr 1
  unfold cnt
  omega

theorem r01_Day_lp (y m d : Int) (hm : m ≤ 13) : ∀ (n : Nat) (s k : Int), 1 ≤ k → k + n = m → -1000000000000 ≤ s → s + 31 * n ≤ 1000000000000 → r01_Day_l0 s k y m d = some (s + cum y m - cum y k, y, m, d)
  | 0, s, k, hk, hn, _, _ => by
    rw [r01_Day_l0_eq]
    have : k = m := by omega
    subst this
    simp only [r01_Day_l0_step, dec_false (show ¬ k < k by omega), cond_false, lpK_inr]
    congr 2; omega
  | n + 1, s, k, hk, hn, h1, h2 => by
    rw [r01_Day_l0_eq]
    have hd := dim_range y k
    have hc := cum_succ y k hk (by omega)
    simp only [r01_Day_l0_step, r01_Days_eq, Option.bind_some, dec_true (show k < m by omega), cond_true, lpK_inl]
    rw [w64_in (x := s + dim y k) (by omega) (by omega), w64_in (x := k + 1) (by omega) (by omega)]
    rw [r01_Day_lp y m d hm n (s + dim y k) (k + 1) (by omega) (by omega) (by omega) (by omega)]
    congr 2; omega

theorem r01_Day_ok {y m d : Int} (hv : valid y m d) : r01_Day (y, m, d) = some (num y m d, 0) := by
  have hm := valid_month hv
  have hd := dim_range y m
  have hb : -1000000000 ≤ cnt y ∧ cnt y ≤ 1000000000 := by have := hv.1; have := hv.2.1; unfold cnt; omega
  have hc := cum_range y m
  obtain ⟨h1, h2, h3, h4⟩ := id hv
  simp only [r01_Day, r01_Valid_eq, dec_true hv, Option.bind_some, Bool.not_true, cond_false, r01_year_eq y (by omega) (by omega), r01_Day_lp y m d (by omega) (m - 1).toNat (cnt y) 1 (by omega) (by omega) (by omega) (by omega)]
  have : cum y 1 = 0 := rfl
  rw [w64_in (x := cnt y + cum y m - cum y 1 + d) (by omega) (by omega), w64_in (by omega) (by omega)]
  unfold num
  congr 2; omega
theorem r01_Weekday_eq (d : Int) : r01_Weekday d = civil_Weekday d := rfl

theorem r01_Nth_lpa (y m k w n e : Int) (hn0 : 0 ≤ n) (hn1 : n ≤ 1000000) (he6 : e ≤ 6) (hew : (n + e + 3) % 7 = w) :
    ∀ (j : Nat) (s : Int), 0 ≤ s → s + j = e → r01_Nth_l0 y m k w n (n + s) = some (y, m, k, n, n + e)
  | 0, s, hs, hj => by
    rw [r01_Nth_l0_eq]
    have : s = e := by omega
    subst this
    have hb : ((n + s + 3) % 7 != w) = false := by simp [hew]
    simp only [r01_Nth_l0_step, r01_Weekday_eq, Weekday_nn (n + s) (by omega), Option.bind_some, hb, cond_false, lpK_inr]
  | j + 1, s, hs, hj => by
    rw [r01_Nth_l0_eq]
    have hb : ((n + s + 3) % 7 != w) = true := by
      simp only [bne_iff_ne, ne_eq]; omega
    simp only [r01_Nth_l0_step, r01_Weekday_eq, Weekday_nn (n + s) (by omega), Option.bind_some, hb, cond_true, lpK_inl]
    rw [w64_in (x := n + s + 1) (by omega) (by omega), show n + s + 1 = n + (s + 1) by omega]
    exact r01_Nth_lpa y m k w n e hn0 hn1 he6 hew j (s + 1) (by omega) (by omega)

theorem r01_Nth_lpb (y m n t : Int) (hn0 : 0 ≤ n) (hn1 : n ≤ 1000000) (ht1 : t < n + dim y m) (ht2 : n + dim y m ≤ t + 7) (ht0 : -1000 ≤ t) :
    ∀ (j : Nat) (s : Int), s + 7 * j = t → -1000 ≤ s → r01_Nth_l2 y m n s = some t
  | 0, s, hs, _ => by
    have hd := dim_range y m
    rw [r01_Nth_l2_eq]
    have : s = t := by omega
    subst this
    simp only [r01_Nth_l2_step, r01_Days_eq, Option.bind_some]
    rw [w64_in (x := s + 7) (by omega) (by omega), w64_in (x := n + dim y m) (by omega) (by omega), dec_false (show ¬ s + 7 < n + dim y m by omega), cond_false, lpK_inr]
  | j + 1, s, hs, h1 => by
    have hd := dim_range y m
    rw [r01_Nth_l2_eq]
    simp only [r01_Nth_l2_step, r01_Days_eq, Option.bind_some]
    rw [w64_in (x := s + 7) (by omega) (by omega), w64_in (x := n + dim y m) (by omega) (by omega), dec_true (show s + 7 < n + dim y m by omega), cond_true, lpK_inl]
    exact r01_Nth_lpb y m n t hn0 hn1 ht1 ht2 ht0 j (s + 7) (by omega) (by omega)

theorem r01_Nth_ok (y m k w : Int) (h1 : 1970 ≤ y) (h2 : y ≤ 2240) (hm1 : 1 ≤ m) (hm2 : m ≤ 12) (hk1 : 1 ≤ k) (hk2 : k ≤ 5) (hw1 : 0 ≤ w) (hw2 : w ≤ 6) : r01_Nth y m k w = some (nth y m k w, 0) := by
  have hv := dim_valid1 y m h1 h2 hm1 hm2
  have hr := num_range hv
  have hd := dim_pos y m hm1 hm2
  have hd2 := dim_range y m
  simp only [r01_Nth, r01_Day_ok hv, Option.bind_some, bne_self_eq_false]
  rw [dec_false (show ¬ k < 1 by omega), dec_false (show ¬ k > 5 by omega), dec_false (show ¬ w < 0 by omega), dec_false (show ¬ w > 6 by omega)]
  simp only [cond_false]
  unfold nth
  generalize num y m 1 = n at *
  obtain ⟨e, he0, he6, hew, hee⟩ : ∃ e, 0 ≤ e ∧ e ≤ 6 ∧ (n + e + 3) % 7 = w ∧ n + (w - (n + 3) % 7 + 7) % 7 = n + e := ⟨(w - (n + 3) % 7 + 7) % 7, by omega, by omega, by omega, rfl⟩
  rw [hee]
  have hl := r01_Nth_lpa y m k w n e hr.1 (by omega) he6 hew e.toNat 0 (by omega) (by omega)
  rw [Int.add_zero] at hl
  simp only [hl, Option.bind_some]
  by_cases hk : k < 5
  · rw [dec_true hk, cond_true, w64_in (x := k - 1) (by omega) (by omega), w64_in (x := 7 * (k - 1)) (by omega) (by omega), w64_in (by omega) (by omega), if_neg (by omega)]
  · have hk5 : k = 5 := by omega
    subst hk5
    rw [dec_false hk, cond_false]
    by_cases hc : n + e + 7 * (5 - 1) ≥ n + dim y m
    · rw [r01_Nth_lpb y m n (n + e + 21) hr.1 (by omega) (by omega) (by omega) (by omega) 3 (n + e) (by omega) (by omega), if_pos hc]
      simp only [Option.bind_some]
      congr 2; omega
    · rw [r01_Nth_lpb y m n (n + e + 28) hr.1 (by omega) (by omega) (by omega) (by omega) 4 (n + e) (by omega) (by omega), if_neg hc]
      simp only [Option.bind_some]
      congr 2
end Go.Proofs.Pw

/- Chapter 4: what a sorted list of occurrences and the transitions hold. -/
open Go Go.Lft
namespace Go.Proofs.Pw

end Go.Proofs.Pw
