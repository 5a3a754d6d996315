/- The layers, edits and configurations that the dice make are right. -/
import Derived.Test.YtdfbeioppmgheaaGreatPD
import Derived.Test.YtdfbeioppmgheaaGreatPC
import Derived.Test.YtdfbeioppmgheaaGreatPA
import Derived.Test.YtdfbeioppmgheaaGreatPB
import Derived.KernelRfl
import Derived.Test.YtdfbeioppmgheaaGreatLD
open Go Go.Lft
namespace Go.Proofs.Pw
theorem Ly_l0 {L : List Int} {zs : List ZoneT} {ps : List PersonT} {cs : List CalT} {ss : List SchedT} (hp0 : 1 ≤ ps.length) (hp1 : ps.length ≤ 100) {x0 y0 : ByteArray} {x1 x2 x3 x4 x5 x6 x7 y1 y2 y3 y4 y5 y6 y7 : Int} : ∀ (n : Nat) (a : Int) (ms : List Int), DOk L a → ms.length + n ≤ 4 → (∀ m ∈ ms, 0 ≤ m ∧ m < (ps.length : Int)) →
   ∃ ms' a', made_Dice_Layer_l0 (n : Int) L a zs ps cs ss x0 x1 x2 x3 x4 x5 x6 x7 y0 y1 y2 y3 y4 y5 y6 y7 ms = some (L, a', zs, ps, cs, ss, x0, x1, x2, x3, x4, x5, x6, x7, y0, y1, y2, y3, y4, y5, y6, y7, ms') ∧ ms'.length = ms.length + n ∧ (∀ m ∈ ms', 0 ≤ m ∧ m < (ps.length : Int)) ∧ DOk L a'
 | 0, a, ms, hd, _, hm => by
   rw [made_Dice_Layer_l0_eq]
   simp only [made_Dice_Layer_l0_step]
   rw [dec_false (by omega), cond_false, lpK_inr]
   exact ⟨ms, a, rfl, rfl, hm, hd⟩
 | n + 1, a, ms, hd, hl, hm => by
   obtain ⟨x, a1, e1, x0', x1', d1⟩ := Next_ok (n := (ps.length : Int)) hd (by omega) (by omega)
   rw [made_Dice_Layer_l0_eq]
   simp only [made_Dice_Layer_l0_step, show Int.ofNat (List.length ps) = (ps.length : Int) from rfl]
   rw [dec_true (by omega), w64_in (x := ((n + 1 : Nat) : Int) - 1) (by omega) (by omega), show ((n + 1 : Nat) : Int) - 1 = (n : Int) by omega]
   simp only [cond_true, e1, Option.bind_some]
   rw [dec_true (by simp [sizeMax]; omega)]
   simp only [cond_true, lpK_inl]
   obtain ⟨ms', a', e, h1, h2, h3⟩ := Ly_l0 (zs := zs) (cs := cs) (ss := ss) hp0 hp1 (x0 := x0) (x1 := x1) (x2 := x2) (x3 := x3) (x4 := x4) (x5 := x5) (x6 := x6) (x7 := x7) (y0 := y0) (y1 := y1) (y2 := y2) (y3 := y3) (y4 := y4) (y5 := y5) (y6 := y6) (y7 := y7) n a1 (ms ++ [x]) d1 (by simp; omega) (fun m h => by
     rcases List.mem_append.1 h with h | h
     · exact hm m h
     · simp at h; subst h; exact ⟨x0', x1'⟩)
   exact ⟨ms', a', e, by rw [h1]; simp; omega, h2, h3⟩
theorem Layer2_ok {L : List Int} {a : Int} (h : DOk L a) {zs : List ZoneT} {ps : List PersonT} {cs : List CalT} {ss : List SchedT} (hs : SOk zs ps cs) (nm : ByteArray) :
   ∃ l a', made_Dice_Layer L a (zs, (ps, (cs, ss))) nm = some (l, L, a') ∧ LOk l ∧ LCk zs.length ps.length cs.length l ∧ l.1 = nm ∧ DOk L a' := by
 have hz0 := hs.z0; have hz1 := hs.z1; have hp0 := hs.p0; have hp1 := hs.p1; have hc1 := hs.c1
 obtain ⟨z, a1, e1, z0, z1, d1⟩ := Next_ok (n := (zs.length : Int)) h (by omega) (by omega)
 obtain ⟨x, a2, e2, x0, x1, d2⟩ := Next_ok (n := 6) d1 (by omega) (by omega)
 obtain ⟨s, a3, e3, m3, d3⟩ := Pick_ok d2 (xs := [(0 : Int), (32400 : Int), (7200 : Int), (9000 : Int), (79200 : Int), (1 : Int)]) (by simp) (by simp)
 obtain ⟨u, a4, e4, u0, u1, d4⟩ := Next_ok (n := 3) d3 (by omega) (by omega)
 obtain ⟨v, a5, e5, v0, v1, d5⟩ := Next_ok (n := 2) d4 (by omega) (by omega)
 have hs' : 0 ≤ s ∧ s ≤ 79200 := by simp at m3; omega
 simp only [made_Dice_Layer, show Int.ofNat (List.length zs) = (zs.length : Int) from rfl, e1, e2, e3, e4, e5, Option.bind_some]
 rw [w64_in (x := 20454 + x) (by omega) (by omega), w64_in (x := 20454 + x - 2) (by omega) (by omega), w64_in (x := 1 + v) (by omega) (by omega)]
 have fin : ∀ (ev : Int), 1 ≤ ev → ev ≤ 49 → (u ≠ 0 → ev ≤ 2) → ∀ ms : List Int, 1 ≤ ms.length → ms.length ≤ 3 → (∀ m ∈ ms, 0 ≤ m ∧ m < (ps.length : Int)) → ∀ (w : WL), WOk 0 w → w.length ≤ 3 → ∀ (c m : Int), 0 ≤ m → m ≤ 2 → (m ≠ 0 → 0 ≤ c ∧ c < (cs.length : Int)) → (m = 0 → c = 0) → ∀ (a' : Int), DOk L a' →
     ∃ l a'', some ((nm, (z, ((20454 + x - 2, s), (u, (ev, (ms, (w, (c, m)))))))), L, a') = some (l, L, a'') ∧ LOk l ∧ LCk zs.length ps.length cs.length l ∧ l.1 = nm ∧ DOk L a'' :=
   fun ev h1 h2 h3 ms h4 h5 hmem w hw hwl c m hm0 hm1 hmc hmz a' hd => ⟨_, _, rfl, ⟨by dsimp only; omega, by dsimp only; omega, hs'.1, hs'.2, u0, by dsimp only; omega, h1, h2, h3, h4, h5⟩,
     ⟨z0, z1, by dsimp only; omega, day_ok (by dsimp only; omega) (by dsimp only; omega), hs'.1, by dsimp only; omega, u0, by dsimp only; omega, h1, by dsimp only; omega, by dsimp only; omega, by dsimp only; omega, hmem, hw, by dsimp only; omega, hm0, hm1, hmc, hmz⟩, rfl, hd⟩
 have rest : ∀ (ev : Int), 1 ≤ ev → ev ≤ 49 → (u ≠ 0 → ev ≤ 2) → ∀ (ms : List Int), 1 ≤ ms.length → ms.length ≤ 3 → (∀ m ∈ ms, 0 ≤ m ∧ m < (ps.length : Int)) → ∀ (w : WL), WOk 0 w → w.length ≤ 3 → ∀ (a9 : Int), DOk L a9 →
     ∃ l a'', ((made_Dice_Bool L a9 4).bind fun r => cond (cond r.1 (decide ((cs.length : Int) > 0)) false) ((made_Dice_Next r.2.1 r.2.2 (cs.length : Int)).bind fun r70 => (made_Dice_Next r70.2.1 r70.2.2 2).bind fun r72 => some ((nm, (z, ((20454 + x - 2, s), (u, (ev, (ms, (w, (r70.1, w64 (1 + r72.1))))))))), r72.2.1, r72.2.2))
       (some ((nm, (z, ((20454 + x - 2, s), (u, (ev, (ms, (w, ((0 : Int), (0 : Int))))))))), r.2.1, r.2.2))) = some (l, L, a'') ∧ LOk l ∧ LCk zs.length ps.length cs.length l ∧ l.1 = nm ∧ DOk L a'' := by
   intro ev h1 h2 h3 ms h4 h5 hmem w hw hwl a9 d9
   obtain ⟨c, a11, e11, d11⟩ := Bool_ok (n := 4) d9 (by omega) (by omega)
   simp only [e11, Option.bind_some]
   by_cases hcc : c = true ∧ (cs.length : Int) > 0
   · obtain ⟨i, a12, e12, i0, i1, d12⟩ := Next_ok (n := (cs.length : Int)) d11 (by omega) (by omega)
     obtain ⟨j, a13, e13, j0, j1, d13⟩ := Next_ok (n := 2) d12 (by omega) (by omega)
     rw [hcc.1, dec_true hcc.2]
     simp only [cond_true, e12, e13, Option.bind_some, w64_in (x := 1 + j) (show -9223372036854775808 ≤ _ by omega) (by omega)]
     exact fin ev h1 h2 h3 ms h4 h5 hmem w hw hwl i (1 + j) (by omega) (by omega) (fun _ => ⟨i0, i1⟩) (fun hh => by omega) _ d13
   · have hc0 : cond c (decide ((cs.length : Int) > 0)) false = false := by
       cases c with
       | true => exact dec_false (fun h => hcc ⟨rfl, h⟩)
       | false => rfl
     rw [hc0]
     simp only [cond_false]
     exact fin ev h1 h2 h3 ms h4 h5 hmem w hw hwl 0 0 (by omega) (by omega) (fun hh => absurd rfl hh) (fun _ => rfl) _ d11
 have nilW : WOk 0 ([] : WL) := show (0 : Int) ≤ 604800 by omega
 by_cases hu : u = 0
 · rw [beq_t hu, cond_true]
   obtain ⟨ev, a6, e6, m6, d6⟩ := Pick_ok d5 (xs := [(6 : Int), (8 : Int), (12 : Int), (24 : Int), (23 : Int), (49 : Int)]) (by simp) (by simp)
   have hev : 1 ≤ ev ∧ ev ≤ 49 := by simp at m6; omega
   obtain ⟨n, a7, e7, n0, n1, d7⟩ := Next_ok (n := 3) d6 (by omega) (by omega)
   obtain ⟨ms, a8, e8, l8, k8, d8⟩ := Ly_l0 (L := L) (zs := zs) (ps := ps) (cs := cs) (ss := ss) hp0 (by omega) (x0 := ByteArray.empty) (x1 := 0) (x2 := 0) (x3 := 0) (x4 := 0) (x5 := 0) (x6 := 0) (x7 := 0) (y0 := nm) (y1 := z) (y2 := 20454 + x - 2) (y3 := s) (y4 := u) (y5 := ev) (y6 := 0) (y7 := 0) (1 + n).toNat a7 [] d7 (by simp; omega) (by simp)
   rw [show (((1 + n).toNat : Nat) : Int) = 1 + n by omega] at e8
   simp at l8
   obtain ⟨b, a9, e9, d9⟩ := Bool_ok (n := 2) d8 (by omega) (by omega)
   simp only [e6, e7, Option.bind_some]
   rw [w64_in (x := 1 + n) (by omega) (by omega)]
   simp only [e8, e9, Option.bind_some, show Int.ofNat (List.length cs) = (cs.length : Int) from rfl]
   cases b with
   | true =>
     obtain ⟨w, a10, e10, hw, hwl, d10⟩ := Windows_ok d9
     simp only [cond_true, e10, Option.bind_some]
     exact rest ev hev.1 hev.2 (fun h => absurd hu h) ms (by omega) (by omega) k8 w hw hwl a10 d10
   | false =>
     simp only [cond_false]
     exact rest ev hev.1 hev.2 (fun h => absurd hu h) ms (by omega) (by omega) k8 [] nilW (by simp) a9 d9
 · rw [beq_f hu, cond_false]
   obtain ⟨n, a7, e7, n0, n1, d7⟩ := Next_ok (n := 3) d5 (by omega) (by omega)
   obtain ⟨ms, a8, e8, l8, k8, d8⟩ := Ly_l0 (L := L) (zs := zs) (ps := ps) (cs := cs) (ss := ss) hp0 (by omega) (x0 := ByteArray.empty) (x1 := 0) (x2 := 0) (x3 := 0) (x4 := 0) (x5 := 0) (x6 := 0) (x7 := 0) (y0 := nm) (y1 := z) (y2 := 20454 + x - 2) (y3 := s) (y4 := u) (y5 := 1 + v) (y6 := 0) (y7 := 0) (1 + n).toNat a7 [] d7 (by simp; omega) (by simp)
   rw [show (((1 + n).toNat : Nat) : Int) = 1 + n by omega] at e8
   simp at l8
   obtain ⟨b, a9, e9, d9⟩ := Bool_ok (n := 2) d8 (by omega) (by omega)
   simp only [e7, Option.bind_some]
   rw [w64_in (x := 1 + n) (by omega) (by omega)]
   simp only [e8, e9, Option.bind_some, show Int.ofNat (List.length cs) = (cs.length : Int) from rfl]
   cases b with
   | true =>
     obtain ⟨w, a10, e10, hw, hwl, d10⟩ := Windows_ok d9
     simp only [cond_true, e10, Option.bind_some]
     exact rest (1 + v) (by omega) (by omega) (fun _ => by omega) ms (by omega) (by omega) k8 w hw hwl a10 d10
   | false =>
     simp only [cond_false]
     exact rest (1 + v) (by omega) (by omega) (fun _ => by omega) ms (by omega) (by omega) k8 [] nilW (by simp) a9 d9
theorem Edit_ok {L : List Int} {a : Int} (h : DOk L a) {zs : List ZoneT} {ps : List PersonT} {cs : List CalT} {ss : List SchedT} (hp0 : 1 ≤ ps.length) (hp1 : ps.length ≤ 4) :
   ∃ x a', made_Dice_Edit L a (zs, (ps, (cs, ss))) = some (x, L, a') ∧ ECk ps.length x ∧ DOk L a' := by
 obtain ⟨k, a1, e1, k0, k1, d1⟩ := Next_ok (n := 3) h (by omega) (by omega)
 obtain ⟨p, a2, e2, p0, p1, d2⟩ := Next_ok (n := (ps.length : Int)) d1 (by omega) (by omega)
 obtain ⟨t, a3, e3, t0, t1, d3⟩ := Instant_ok d2
 obtain ⟨y, a4, e4, m4, d4⟩ := Pick_ok d3 (xs := [(3600 : Int), (86400 : Int), (7 : Int), (259200 : Int), (40000 : Int)]) (by simp) (by simp)
 have hy : 7 ≤ y ∧ y ≤ 259200 := by simp at m4; omega
 have hday : resolve_day (Int.tdiv (t + y) 86400) = some true := by
   rw [tdiv_nn (by omega)]
   exact day_ok (by omega) (by omega)
 simp only [made_Dice_Edit, show Int.ofNat (List.length ps) = (ps.length : Int) from rfl, e1, e2, e3, e4, Option.bind_some]
 rw [w64_in (x := t + y) (by omega) (by omega)]
 have fin : ∀ (kd A B : Int), 0 ≤ kd → kd ≤ 2 → (0 ≤ A ∧ A < (ps.length : Int) ∨ kd = 1 ∧ A = -1) → (kd = 2 → 0 ≤ B ∧ B < (ps.length : Int) ∧ A ≠ B) → (kd ≠ 2 → B = 0) → ∀ a', DOk L a' → ∃ x a'', some ((kd, (A, (B, (t, t + y)))), L, a') = some (x, L, a'') ∧ ECk ps.length x ∧ DOk L a'' :=
   fun kd A B h1 h2 h3 h4 h5 a' hd => ⟨_, _, rfl, ⟨h1, h2, h3, h4, h5, by dsimp only; omega, by dsimp only; omega, by dsimp only; omega, hday⟩, hd⟩
 by_cases h2 : k = 2
 · rw [beq_t h2, cond_true]
   by_cases hn : (ps.length : Int) < 2
   · rw [dec_true hn, cond_true]
     exact fin 0 p 0 (by omega) (by omega) (.inl ⟨p0, p1⟩) (fun hh => by omega) (fun _ => rfl) _ d4
   · rw [dec_false hn, cond_false, w64_in (x := (ps.length : Int) - 1) (by omega) (by omega)]
     obtain ⟨q, a5, e5, q0, q1, d5⟩ := Next_ok (n := (ps.length : Int) - 1) d4 (by omega) (by omega)
     simp only [e5, Option.bind_some]
     rw [w64_in (x := p + 1) (by omega) (by omega), w64_in (x := p + 1 + q) (by omega) (by omega), beq_f (show ¬ (ps.length : Int) = 0 by omega), beq_f (show ¬ k = 1 by omega), tmod_nn (by omega)]
     simp only [Bool.not_false, cond_true, cond_false]
     have b0 : 0 ≤ (p + 1 + q) % (ps.length : Int) := Int.emod_nonneg _ (by omega)
     have b1 : (p + 1 + q) % (ps.length : Int) < (ps.length : Int) := Int.emod_lt_of_pos _ (by omega)
     have hne : p ≠ (p + 1 + q) % (ps.length : Int) := by
       by_cases hb : p + 1 + q < (ps.length : Int)
       · rw [Int.emod_eq_of_lt (by omega) hb]; omega
       · rw [← Int.sub_emod_right, Int.emod_eq_of_lt (by omega) (by omega)]; omega
     exact fin k p _ k0 (by omega) (.inl ⟨p0, p1⟩) (fun _ => ⟨b0, b1, hne⟩) (fun hh => absurd h2 hh) _ d5
 · rw [beq_f h2, cond_false]
   by_cases h1 : k = 1
   · rw [beq_t h1, cond_true]
     obtain ⟨b, a5, e5, d5⟩ := Bool_ok (n := 4) d4 (by omega) (by omega)
     simp only [e5, Option.bind_some]
     cases b with
     | true => exact fin k (-1) 0 k0 (by omega) (.inr ⟨h1, rfl⟩) (fun hh => absurd hh h2) (fun _ => rfl) _ d5
     | false => exact fin k p 0 k0 (by omega) (.inl ⟨p0, p1⟩) (fun hh => absurd hh h2) (fun _ => rfl) _ d5
   · rw [beq_f h1, cond_false]
     exact fin k p 0 k0 (by omega) (.inl ⟨p0, p1⟩) (fun hh => absurd hh h2) (fun _ => rfl) _ d4
theorem Cf_l2 {L : List Int} {s6 : Int} {nm : ByteArray} {zs : List ZoneT} {ps : List PersonT} {cs : List CalT} {ss : List SchedT} (hs : SOk zs ps cs) : ∀ (n : Nat) (a : Int) (ls : List LayerT), DOk L a → ls.length + n ≤ 3 → (∀ x ∈ ls, LCk zs.length ps.length cs.length x) → ls.map (·.1) = nmsL.take ls.length →
   ∃ ls' a', made_Dice_Config_l2 s6 (n : Int) L a zs ps cs nm ss ls = some (s6, L, a', zs, ps, cs, nm, ss, ls') ∧ ls'.length ≤ 3 ∧ (∀ x ∈ ls', LCk zs.length ps.length cs.length x) ∧ ls'.map (·.1) = nmsL.take ls'.length ∧ DOk L a'
 | 0, a, ls, hd, hl, hk, hn => by
   rw [made_Dice_Config_l2_eq]
   simp only [made_Dice_Config_l2_step]
   rw [dec_false (by omega), cond_false, lpK_inr]
   exact ⟨ls, a, rfl, by omega, hk, hn, hd⟩
 | n + 1, a, ls, hd, hl, hk, hn => by
   have hnm : ls.length < nmsL.length := by show ls.length < 8; omega
   obtain ⟨l, a1, e1, _, l2, l3, d1⟩ := Layer2_ok (ss := ss) hd hs (nmsL.getD ls.length ByteArray.empty)
   rw [made_Dice_Config_l2_eq]
   simp only [made_Dice_Config_l2_step, names_eq, Option.bind_some, show Int.ofNat (List.length ls) = (ls.length : Int) from rfl]
   rw [dec_true (by omega), inR_t (show (0 : Int) ≤ (ls.length : Int) by omega) (by omega), w64_in (x := ((n + 1 : Nat) : Int) - 1) (by omega) (by omega), show ((n + 1 : Nat) : Int) - 1 = (n : Int) by omega]
   simp only [cond_true, Int.toNat_natCast, e1, Option.bind_some]
   rw [dec_true (by simp [sizeMax]; omega)]
   simp only [cond_true, lpK_inl]
   exact Cf_l2 hs n a1 (ls ++ [l]) d1 (by simp; omega) (fun x hx => by
     rcases List.mem_append.1 hx with h | h
     · exact hk x h
     · simp at h; subst h; exact l2) (by
     rw [List.map_append, hn, List.length_append, List.map_cons, List.map_nil, l3]
     exact take_nm hnm)
theorem Cf_l4 {L : List Int} {s6 : Int} {nm : ByteArray} {zs : List ZoneT} {ps : List PersonT} {cs : List CalT} {ss : List SchedT} {ls : List LayerT} (hs : SOk zs ps cs) : ∀ (n : Nat) (a : Int) (es : List EditT), DOk L a → es.length + n ≤ 3 → (∀ x ∈ es, ECk ps.length x) →
   ∃ es' a', made_Dice_Config_l4 s6 (n : Int) L a zs ps cs nm ss ls es = some (s6, L, a', zs, ps, cs, nm, ss, ls, es') ∧ es'.length ≤ 3 ∧ (∀ x ∈ es', ECk ps.length x) ∧ DOk L a'
 | 0, a, es, hd, hl, hk => by
   rw [made_Dice_Config_l4_eq]
   simp only [made_Dice_Config_l4_step]
   rw [dec_false (by omega), cond_false, lpK_inr]
   exact ⟨es, a, rfl, by omega, hk, hd⟩
 | n + 1, a, es, hd, hl, hk => by
   obtain ⟨x, a1, e1, x1, d1⟩ := Edit_ok (zs := zs) (cs := cs) (ss := ss) hd hs.p0 hs.p1
   rw [made_Dice_Config_l4_eq]
   simp only [made_Dice_Config_l4_step]
   rw [dec_true (by omega), w64_in (x := ((n + 1 : Nat) : Int) - 1) (by omega) (by omega), show ((n + 1 : Nat) : Int) - 1 = (n : Int) by omega]
   simp only [cond_true, e1, Option.bind_some]
   rw [dec_true (by simp [sizeMax]; omega)]
   simp only [cond_true, lpK_inl]
   exact Cf_l4 hs n a1 (es ++ [x]) d1 (by simp; omega) (fun y hy => by
     rcases List.mem_append.1 hy with h | h
     · exact hk y h
     · simp at h; subst h; exact x1)
theorem cfg_of {zs : List ZoneT} {ps : List PersonT} {cs : List CalT} {ss : List SchedT} (hs : SOk2 zs ps cs) (h0 : ss.length ≤ 12) (h1 : NmL (ss.map (·.1))) (h2 : ∀ s ∈ ss, SCk zs.length ps.length cs.length s) : CfgOk (zs, (ps, (cs, ss))) := by
 have hz1 := hs.so.z1; have hp1 := hs.so.p1; have hc1 := hs.so.c1
 exact ⟨by dsimp only; rw [hs.z.nm]; exact nmsZ_ok.take _, hs.z.ck, by dsimp only; omega, by dsimp only; rw [hs.p.nm]; exact nmsL_ok.take _, hs.p.ck, by dsimp only; omega, hs.c.nm, hs.c.ck, by dsimp only; omega, h1, h2, h0⟩
end Go.Proofs.Pw
open Go Go.Lft
namespace Go.Proofs.Pw
structure Fst (o : Int) (l : TrL) (s t : Int) (k : Nat) : Prop where
 hk : k ≤ l.length
 hks : s - tof o l k < frm l (k + 1)
 bef : ∀ j, j < k → frm l (j + 1) ≤ s - tof o l j
 ht : t = max (frm l k) (s - tof o l k)
noncomputable def fstI (o : Int) (l : TrL) (s : Int) : Int := open Classical in if h : ∃ t k, Fst o l s t k then Classical.choose h else 0
def stepD (L : LayerT) : Int := if L.2.2.2.1 = 2 then 7 * L.2.2.2.2.1 else L.2.2.2.2.1
def sLoc (L : LayerT) (k : Int) : Int := (L.2.2.1.1 + k * stepD L) * 86400 + L.2.2.1.2
noncomputable def hov (o : Int) (l : TrL) (L : LayerT) (k : Int) : Int := if L.2.2.2.1 = 0 then fstI o l (sLoc L 0) + 3600 * L.2.2.2.2.1 * k else fstI o l (sLoc L k)
structure LR (L : LayerT) : Prop where
 d0 : 100 ≤ L.2.2.1.1
 d1 : L.2.2.1.1 ≤ 30000
 c0 : 0 ≤ L.2.2.1.2
 c1 : L.2.2.1.2 ≤ 86399
 u0 : 0 ≤ L.2.2.2.1
 u1 : L.2.2.2.1 ≤ 2
 e0 : 1 ≤ L.2.2.2.2.1
 e1 : L.2.2.2.2.1 ≤ 49
 m0 : 1 ≤ L.2.2.2.2.2.1.length
 m1 : L.2.2.2.2.2.1.length ≤ 1000
end Go.Proofs.Pw
open Go Go.Lft
namespace Go.Proofs.Pw
end Go.Proofs.Pw
open Go Go.Lft
namespace Go.Proofs.Pw
end Go.Proofs.Pw
open Go Go.Lft
namespace Go.Proofs.Pw
end Go.Proofs.Pw
open Go Go.Lft
namespace Go.Proofs.Pw
end Go.Proofs.Pw
open Go Go.Lft
namespace Go.Proofs.Pw
end Go.Proofs.Pw
open Go Go.Lft
namespace Go.Proofs.Pw
end Go.Proofs.Pw
open Go Go.Lft
namespace Go.Proofs.Pw
structure Rt (L : LayerT) : Prop where
 d0 : 1 ≤ L.2.2.1.1
 d1 : L.2.2.1.1 ≤ 100000
 c0 : 0 ≤ L.2.2.1.2
 c1 : L.2.2.1.2 ≤ 86399
 u0 : 0 ≤ L.2.2.2.1
 u1 : L.2.2.2.1 ≤ 2
 e0 : 1 ≤ L.2.2.2.2.1
 e1 : L.2.2.2.2.1 ≤ 400
 m0 : L.2.2.2.2.2.1 ≠ []
end Go.Proofs.Pw
open Go Go.Lft
namespace Go.Proofs.Pw
end Go.Proofs.Pw
open Go Go.Lft
namespace Go.Proofs.Pw
end Go.Proofs.Pw
open Go Go.Lft
namespace Go.Proofs.Pw
end Go.Proofs.Pw
open Go Go.Lft
namespace Go.Proofs.Pw
end Go.Proofs.Pw
open Go Go.Lft
namespace Go.Proofs.Pw
def nms3 : List ByteArray := [(ByteArray.mk #[102, 105, 114, 115, 116]), (ByteArray.mk #[115, 101, 99, 111, 110, 100]), (ByteArray.mk #[116, 104, 105, 114, 100])]
theorem nms3_ok : NmL nms3 := by
 refine ⟨by decide, fun k hk => ?_⟩
 simp only [nms3, List.mem_cons, List.not_mem_nil, or_false] at hk
 rcases hk with rfl | rfl | rfl <;> exact lexer_Name_le 60 _ true (by kernel_rfl)
structure SG (nz np nc : Nat) (s : SchedT) : Prop where
 ck : SCk nz np nc s
 nm : s.2.1.map (·.1) = nmsL.take s.2.1.length
 ll : s.2.1.length ≤ 3
 el : s.2.2.length ≤ 3
theorem CfN_l0 {L : List Int} {zs : List ZoneT} {ps : List PersonT} {cs : List CalT} (hs : SOk zs ps cs) : ∀ (n : Nat) (a : Int) (ss : List SchedT), DOk L a → ss.length + n ≤ 3 → ss.map (·.1) = nms3.take ss.length → (∀ s ∈ ss, SG zs.length ps.length cs.length s) →
   ∃ ss' a', made_Dice_Config_l0 (n : Int) L a zs ps cs ss = some (L, a', zs, ps, cs, ss') ∧ ss'.length = ss.length + n ∧ ss'.map (·.1) = nms3.take ss'.length ∧ (∀ s ∈ ss', SG zs.length ps.length cs.length s) ∧ DOk L a'
 | 0, a, ss, hd, hl, hn, hg => by
   rw [made_Dice_Config_l0_eq]
   simp only [made_Dice_Config_l0_step]
   rw [dec_false (by omega), cond_false, lpK_inr]
   exact ⟨ss, a, rfl, rfl, hn, hg, hd⟩
 | n + 1, a, ss, hd, hl, hn, hg => by
   have hlt : ss.length < nms3.length := by show ss.length < 3; omega
   have hmod : Int.tmod (Int.ofNat ss.length) 3 = (ss.length : Int) := by
     have : Int.tmod (ss.length : Int) 3 = (ss.length : Int) := Int.tmod_eq_of_lt (by omega) (by omega)
     exact this
   obtain ⟨k, a3, e3, k0, k1, d3⟩ := Next_ok (n := 4) hd (by omega) (by omega)
   obtain ⟨ls, a4, e4, l4, lk, ln, d4⟩ := Cf_l2 (s6 := ((n + 1 : Nat) : Int)) (nm := List.getD nms3 ss.length ByteArray.empty) (ss := ss) hs k.toNat a3 [] d3 (by simp; omega) (by simp) rfl
   obtain ⟨m, a5, e5, m0, m1, d5⟩ := Next_ok (n := 4) d4 (by omega) (by omega)
   obtain ⟨es, a6, e6, l6, ek, d6⟩ := Cf_l4 (s6 := ((n + 1 : Nat) : Int)) (nm := List.getD nms3 ss.length ByteArray.empty) (zs := zs) (cs := cs) (ss := ss) (ls := ls) hs m.toNat a5 [] d5 (by simp; omega) (by simp)
   rw [show ((k.toNat : Nat) : Int) = k by omega] at e4
   rw [show ((m.toNat : Nat) : Int) = m by omega] at e6
   have hnew : SG zs.length ps.length cs.length (List.getD nms3 ss.length ByteArray.empty, (ls, es)) :=
     ⟨⟨by dsimp only; rw [ln]; exact nmsL_ok.take _, lk, by dsimp only; omega, ek, by dsimp only; omega⟩, ln, l4, l6⟩
   obtain ⟨ss', a', e', h1, h2, h3, h4⟩ := CfN_l0 hs n a6 (ss ++ [(List.getD nms3 ss.length ByteArray.empty, (ls, es))]) d6 (by simp; omega) (by
     rw [List.map_append, hn, List.length_append]
     exact take_nm hlt) (fun s h => by
     rcases List.mem_append.1 h with h | h
     · exact hg s h
     · simp at h; subst h; exact hnew)
   rw [made_Dice_Config_l0_eq]
   simp only [made_Dice_Config_l0_step]
   rw [dec_true (show ((n + 1 : Nat) : Int) > 0 by omega), hmod, inR_t (by omega) (by show (ss.length : Int) < (3 : Nat); omega)]
   simp only [cond_true, Int.toNat_natCast, e3, Option.bind_some]
   rw [show made_Dice_Config_l2 ((n + 1 : Nat) : Int) k L a3 zs ps cs (List.getD [(ByteArray.mk #[102, 105, 114, 115, 116]), (ByteArray.mk #[115, 101, 99, 111, 110, 100]), (ByteArray.mk #[116, 104, 105, 114, 100])] ss.length ByteArray.empty) ss [] = _ from e4]
   simp only [Option.bind_some, e5, e6]
   rw [dec_true (by simp [sizeMax]; omega), w64_in (by omega) (by omega), show ((n + 1 : Nat) : Int) - 1 = (n : Int) by omega]
   simp only [cond_true, lpK_inl]
   exact ⟨ss', a', e', by rw [h1]; simp; omega, h2, h3, h4⟩
theorem ConfigN_ok {L : List Int} {a n : Int} (h : DOk L a) (n0 : 1 ≤ n) (n1 : n ≤ 3) : ∃ zs ps cs ss a', made_Dice_Config L a n = some ((zs, (ps, (cs, ss))), L, a') ∧ SOk2 zs ps cs ∧ 1 ≤ ss.length ∧ (ss.length : Int) ≤ n ∧ ss.map (·.1) = nms3.take ss.length ∧ (∀ s ∈ ss, SG zs.length ps.length cs.length s) ∧ DOk L a' := by
 obtain ⟨zs, ps, cs, a1, e1, hs, d1⟩ := Staff2_ok h
 obtain ⟨x, a2, e2, x0, x1, d2⟩ := Next_ok (n := n) d1 (by omega) (by omega)
 obtain ⟨ss, a3, e3, h1, h2, h3, d3⟩ := CfN_l0 hs.so (1 + x).toNat a2 [] d2 (by simp; omega) (by simp) (by simp)
 rw [show (((1 + x).toNat : Nat) : Int) = 1 + x by omega] at e3
 simp at h1
 simp only [made_Dice_Config, e1, e2, Option.bind_some]
 rw [w64_in (x := 1 + x) (by omega) (by omega)]
 simp only [e3, Option.bind_some]
 exact ⟨zs, ps, cs, ss, a3, rfl, hs, by omega, by omega, h2, h3, d3⟩
theorem cfgN_of {zs : List ZoneT} {ps : List PersonT} {cs : List CalT} {ss : List SchedT} (hs : SOk2 zs ps cs) (h0 : ss.length ≤ 12) (h1 : NmL (ss.map (·.1))) (h2 : ∀ s ∈ ss, SCk zs.length ps.length cs.length s) : CfgOk (zs, (ps, (cs, ss))) := cfg_of hs h0 h1 h2
end Go.Proofs.Pw
open Go Go.Lft
namespace Go.Proofs.Pw
theorem sane16 : law16_sane = some true := law16_sane_le 60 true (by kernel_rfl)
end Go.Proofs.Pw
open Go Go.Lft
namespace Go.Proofs.Pw
def untN (u : Int) : Nat := if u = 0 then 3600 else if u = 1 then 86400 else 604800
def perN (L : LayerT) : Nat := L.2.2.2.2.2.1.length * L.2.2.2.2.1.toNat * untN L.2.2.2.1
theorem untN_b (u : Int) : 3600 ≤ untN u ∧ untN u ≤ 604800 := by
 unfold untN; split
 · omega
 · split <;> omega
theorem perN_b {nz np nc : Nat} {L : LayerT} (h : LCk nz np nc L) : 1 ≤ perN L ∧ perN L ≤ 2903040000 := by
 have := h.m0; have := h.m1; have := h.e0; have := h.e1
 obtain ⟨u0, u1⟩ := untN_b L.2.2.2.1
 unfold perN
 have h1 : 1 ≤ L.2.2.2.2.2.1.length * L.2.2.2.2.1.toNat := Nat.mul_pos (by omega) (by omega)
 have h2 : L.2.2.2.2.2.1.length * L.2.2.2.2.1.toNat ≤ 12 * 400 := Nat.mul_le_mul (by omega) (by omega)
 have h3 : 1 ≤ L.2.2.2.2.2.1.length * L.2.2.2.2.1.toNat * untN L.2.2.2.1 := Nat.mul_pos h1 (by omega)
 have h4 : L.2.2.2.2.2.1.length * L.2.2.2.2.1.toNat * untN L.2.2.2.1 ≤ 12 * 400 * 604800 := Nat.mul_le_mul h2 u1
 omega
theorem CLayer_ok {nz np nc : Nat} {L : LayerT} (h : LCk nz np nc L) : cycle_Layer L = some ((perN L : Int), 0) := by
 have hm0 := h.m0; have hm1 := h.m1; have he0 := h.e0; have he1 := h.e1; have hu0 := h.u0; have hu1 := h.u1
 obtain ⟨p0, p1⟩ := perN_b h
 have h2 : L.2.2.2.2.2.1.length * L.2.2.2.2.1.toNat ≤ 12 * 400 := Nat.mul_le_mul (by omega) (by omega)
 have e1 : (L.2.2.2.2.2.1.length : Int) * L.2.2.2.2.1 = ((L.2.2.2.2.2.1.length * L.2.2.2.2.1.toNat : Nat) : Int) := by
   rw [Int.natCast_mul, Int.toNat_of_nonneg (by omega)]
 have e2 : ([(3600 : Int), (86400 : Int), (604800 : Int)]).getD L.2.2.2.1.toNat (0 : Int) = (untN L.2.2.2.1 : Int) := by
   have : L.2.2.2.1 = 0 ∨ L.2.2.2.1 = 1 ∨ L.2.2.2.1 = 2 := by omega
   rcases this with h | h | h <;> rw [h] <;> rfl
 simp only [cycle_Layer, show Int.ofNat L.2.2.2.2.2.1.length = (L.2.2.2.2.2.1.length : Int) from rfl]
 rw [dec_false (show ¬ L.2.2.2.1 < 0 by omega), dec_false (show ¬ L.2.2.2.1 ≥ 3 by omega), dec_false (show ¬ L.2.2.2.2.1 < 1 by omega), dec_false (show ¬ L.2.2.2.2.1 > 400 by omega), dec_false (show ¬ (L.2.2.2.2.2.1.length : Int) < 1 by omega), dec_false (show ¬ (L.2.2.2.2.2.1.length : Int) > 12 by omega), inR_t hu0 (by omega), e1, w64_in (x := ((L.2.2.2.2.2.1.length * L.2.2.2.2.1.toNat : Nat) : Int)) (by omega) (by omega), e2, ← Int.natCast_mul]
 simp only [cond_false, cond_true]
 rw [show L.2.2.2.2.2.1.length * L.2.2.2.2.1.toNat * untN L.2.2.2.1 = perN L from rfl, w64_in (x := (perN L : Int)) (by omega) (by omega)]
theorem gcd_lp : ∀ (b a : Nat), cycle_gcd_l0 (a : Int) (b : Int) = some ((Nat.gcd b a : Nat) : Int) := by
 intro b
 induction b using Nat.strongRecOn with
 | _ b ih =>
   intro a
   rw [cycle_gcd_l0_eq]
   simp only [cycle_gcd_l0_step]
   by_cases hb : b = 0
   · subst hb
     simp only [Int.natCast_zero, bne_self_eq_false, cond_false, Nat.gcd_zero_left]
     exact lpK_inr ..
   · rw [show ((b : Int) != 0) = true by simp; omega, show ((b : Int) == 0) = false from beq_f (by omega), tmod_nn (by omega), ← Int.natCast_emod]
     simp only [cond_true, Bool.not_false, lpK_inl]
     rw [ih (a % b) (Nat.mod_lt _ (by omega)) b, Nat.gcd_rec b a]
theorem gcd_ok (a b : Nat) : cycle_gcd (a : Int) (b : Int) = some ((Nat.gcd a b : Nat) : Int) := by
 simp only [cycle_gcd, gcd_lp, Option.bind_some, Nat.gcd_comm]
def capN (x : Nat) : Nat := if x > 4294967296 then 4294967297 else x
theorem lcm_div (n p : Nat) : n * (p / Nat.gcd n p) = Nat.lcm n p := by
 rw [Nat.lcm, Nat.mul_div_assoc _ (Nat.gcd_dvd_right n p)]
theorem le_lcm {n p : Nat} (hn : 1 ≤ n) (hp : 1 ≤ p) : n ≤ Nat.lcm n p := Nat.le_of_dvd (Nat.lcm_pos hn hp) (Nat.dvd_lcm_left n p)
theorem c1_ok {nz np nc : Nat} {L : LayerT} (h : LCk nz np nc L) {n : Nat} (hn : 1 ≤ n) (hn1 : n ≤ 4294967297) : cycle_Period_c1 (n : Int) L = some ((capN (Nat.lcm n (perN L)) : Nat) : Int) := by
 obtain ⟨p0, p1⟩ := perN_b h
 have hg : 1 ≤ Nat.gcd n (perN L) := Nat.gcd_pos_of_pos_left _ (by omega)
 have hq : perN L / Nat.gcd n (perN L) ≤ perN L := Nat.div_le_self _ _
 have hM : (4294967296 : Int) / (n : Int) = ((4294967296 / n : Nat) : Int) := by rw [Int.natCast_ediv]; rfl
 have hM2 : 4294967296 / n ≤ 4294967296 := Nat.div_le_self _ _
 have hlt : 4294967296 / n < perN L / Nat.gcd n (perN L) ↔ 4294967296 < Nat.lcm n (perN L) := by
   rw [← lcm_div, Nat.div_lt_iff_lt_mul (by omega), Nat.mul_comm n]
 have hle := le_lcm hn p0
 have hlc := lcm_div n (perN L)
 simp only [cycle_Period_c1]
 rw [show cycle_Layer (L.1, (L.2.1, ((L.2.2.1.1, L.2.2.1.2), (L.2.2.2.1, (L.2.2.2.2.1, (L.2.2.2.2.2.1, (L.2.2.2.2.2.2.1, (L.2.2.2.2.2.2.2.1, L.2.2.2.2.2.2.2.2)))))))) = _ from CLayer_ok h]
 simp only [Option.bind_some, gcd_ok]
 rw [show (((Nat.gcd n (perN L) : Nat) : Int) == 0) = false from beq_f (by omega), show ((n : Int) == 0) = false from beq_f (by omega), tdiv_nn (by omega), tdiv_nn (by omega), hM, ← Int.natCast_ediv]
 generalize perN L / Nat.gcd n (perN L) = Q at *
 generalize 4294967296 / n = R at *
 rw [w64_in (x := (Q : Int)) (by omega) (by omega), w64_in (x := (R : Int)) (by omega) (by omega)]
 simp only [Bool.not_false, cond_true, Bool.true_or]
 unfold capN
 by_cases hb : 4294967296 < Nat.lcm n (perN L)
 · rw [if_pos hb, dec_true (show (Q : Int) > (R : Int) by have := hlt.2 hb; omega)]
   cases decide ((n : Int) > 4294967296) <;> rfl
 · rw [if_neg hb, dec_false (show ¬ (Q : Int) > (R : Int) by
     intro h; exact hb (hlt.1 (by omega))), dec_false (show ¬ (n : Int) > 4294967296 by omega), ← Int.natCast_mul, hlc, w64_in (x := ((Nat.lcm n (perN L) : Nat) : Int)) (by omega) (by omega)]
   rfl
def foldN (n : Nat) : List LayerT → Nat
 | [] => n
 | L :: r => foldN (capN (Nat.lcm n (perN L))) r
theorem capN_b (x : Nat) (h : 1 ≤ x) : 1 ≤ capN x ∧ capN x ≤ 4294967297 := by
 unfold capN; split <;> omega
theorem fold_big {nz np nc : Nat} : ∀ (l : List LayerT), (∀ L ∈ l, LCk nz np nc L) → foldN 4294967297 l = 4294967297
 | [], _ => rfl
 | L :: r, h => by
   have := le_lcm (n := 4294967297) (by omega) (perN_b (h L (by simp))).1
   simp only [foldN]
   rw [show capN (Nat.lcm 4294967297 (perN L)) = 4294967297 by unfold capN; rw [if_pos (by omega)]]
   exact fold_big r (fun L hL => h L (by simp [hL]))
theorem fold_cons {nz np nc : Nat} {L : LayerT} {r : List LayerT} (h : ∀ L ∈ r, LCk nz np nc L) {n : Nat} (hf : foldN n (L :: r) ≤ 4294967296) : Nat.lcm n (perN L) ≤ 4294967296 ∧ foldN n (L :: r) = foldN (Nat.lcm n (perN L)) r := by
 simp only [foldN] at hf ⊢
 by_cases hb : Nat.lcm n (perN L) > 4294967296
 · rw [show capN (Nat.lcm n (perN L)) = 4294967297 by unfold capN; rw [if_pos hb], fold_big r h] at hf
   omega
 · rw [show capN (Nat.lcm n (perN L)) = Nat.lcm n (perN L) by unfold capN; rw [if_neg hb]]
   exact ⟨by omega, rfl⟩
theorem fold_dvd {nz np nc : Nat} : ∀ (l : List LayerT) (n : Nat), (∀ L ∈ l, LCk nz np nc L) → foldN n l ≤ 4294967296 → n ∣ foldN n l ∧ ∀ L ∈ l, perN L ∣ foldN n l
 | [], n, _, _ => ⟨Nat.dvd_refl _, by simp⟩
 | L :: r, n, h, hf => by
   have hr : ∀ L ∈ r, LCk nz np nc L := fun L hL => h L (by simp [hL])
   obtain ⟨h1, h2⟩ := fold_cons hr hf
   rw [h2] at hf ⊢
   obtain ⟨h3, h4⟩ := fold_dvd r _ hr hf
   refine ⟨Nat.dvd_trans (Nat.dvd_lcm_left _ _) h3, fun M hM => ?_⟩
   rcases List.mem_cons.1 hM with rfl | hM
   · exact Nat.dvd_trans (Nat.dvd_lcm_right _ _) h3
   · exact h4 M hM
theorem fold_lp {nz np nc : Nat} {ls : List LayerT} (h : ∀ L ∈ ls, LCk nz np nc L) (hl : ls.length ≤ 100) : ∀ (n i s : Nat), i + n = ls.length → 1 ≤ s → s ≤ 4294967297 →
   cycle_fold_api_Layer_int_l0 (s : Int) ls (ls.length : Int) (i : Int) = some ((foldN s (ls.drop i) : Nat) : Int)
 | 0, i, s, hi, _, _ => by
   rw [cycle_fold_api_Layer_int_l0_eq]
   simp only [cycle_fold_api_Layer_int_l0_step]
   rw [dec_false (by omega), cond_false, lpK_inr, List.drop_of_length_le (by omega)]
   rfl
 | n + 1, i, s, hi, s0, s1 => by
   have hi' : i < ls.length := by omega
   have hL := h _ (List.getElem_mem hi')
   have hb := capN_b _ (show 1 ≤ Nat.lcm s (perN ls[i]) from Nat.lcm_pos s0 (perN_b hL).1)
   have hgd : ls.getD i (ByteArray.empty, ((0 : Int), (((0 : Int), (0 : Int)), ((0 : Int), ((0 : Int), (([] : List Int), (([] : List (Int × Int)), ((0 : Int), (0 : Int))))))))) = ls[i] := by simp [List.getD, hi']
   have ih := fold_lp h hl n (i + 1) _ (by omega) hb.1 hb.2
   rw [cycle_fold_api_Layer_int_l0_eq]
   simp only [cycle_fold_api_Layer_int_l0_step]
   rw [dec_true (by omega), inR_t (by omega) (by omega)]
   simp only [cond_true, Int.toNat_natCast, hgd]
   rw [show cycle_Period_c1 (s : Int) (ls[i].1, (ls[i].2.1, ((ls[i].2.2.1.1, ls[i].2.2.1.2), (ls[i].2.2.2.1, (ls[i].2.2.2.2.1, (ls[i].2.2.2.2.2.1, (ls[i].2.2.2.2.2.2.1, (ls[i].2.2.2.2.2.2.2.1, ls[i].2.2.2.2.2.2.2.2)))))))) = _ from c1_ok hL s0 s1]
   simp only [Option.bind_some]
   rw [w64_in (x := (i : Int) + 1) (by omega) (by omega), lpK_inl, List.drop_eq_getElem_cons hi']
   exact ih
def pN (s : SchedT) : Nat := foldN 604800 s.2.1
theorem Period_ok {c : CfgT} (hc : CfgOk c) {i : Nat} (hi : i < c.2.2.2.length) : cycle_Period c (i : Int) = some (if pN c.2.2.2[i] > 4294967296 then (0, 5) else ((pN c.2.2.2[i] : Int), 0)) := by
 have hsc := hc.sc _ (List.getElem_mem hi)
 have hll := hsc.ll
 have hgd : c.2.2.2.getD i (ByteArray.empty, (([] : List LayerT), ([] : List EditT))) = c.2.2.2[i] := by simp [List.getD, hi]
 have lp := fold_lp hsc.ly (by omega) c.2.2.2[i].2.1.length 0 604800 (by omega) (by omega) (by omega)
 rw [List.drop_zero] at lp
 simp only [cycle_Period, show resolve_Check (c.1, (c.2.1, (c.2.2.1, c.2.2.2))) = _ from ResCheck_ok hc, Option.bind_some, bne_self_eq_false, cond_false, stack_Index, show Int.ofNat c.2.2.2.length = (c.2.2.2.length : Int) from rfl]
 rw [dec_true (show (i : Int) ≥ 0 by omega), dec_true (show (i : Int) < (c.2.2.2.length : Int) by omega), inR_t (by omega) (by omega)]
 simp only [cond_true, Bool.not_true, cond_false, Int.toNat_natCast, hgd, cycle_fold_api_Layer_int, show Int.ofNat c.2.2.2[i].2.1.length = (c.2.2.2[i].2.1.length : Int) from rfl]
 rw [show cycle_fold_api_Layer_int_l0 604800 c.2.2.2[i].2.1 (c.2.2.2[i].2.1.length : Int) 0 = some ((pN c.2.2.2[i] : Nat) : Int) from lp]
 simp only [Option.bind_some]
 by_cases hb : pN c.2.2.2[i] > 4294967296
 · rw [if_pos hb, dec_true (by omega)]; rfl
 · rw [if_neg hb, dec_false (by omega)]; rfl
theorem cl2_lp {p a b : Int} {ls : List LayerT} {n q K : Nat} (hn : 1 ≤ n) (hq : 1 ≤ q) (hb : Nat.lcm n q ≤ 4294967296) (hK : n * K = Nat.lcm n q) : ∀ (d k : Nat), 1 ≤ k → k + d = K →
   law16_CycleLayers_l2 p ls ((n * k : Nat) : Int) (q : Int) (n : Int) a b = some (p, ls, ((Nat.lcm n q : Nat) : Int), a, b) := by
 intro d
 induction d with
 | zero =>
   intro k hk hkd
   rw [law16_CycleLayers_l2_eq]
   simp only [law16_CycleLayers_l2_step]
   have : n * k = Nat.lcm n q := by rw [← hK, ← hkd]; rfl
   rw [this, beq_f (by omega), tmod_nn (by omega), ← Int.natCast_emod, Nat.mod_eq_zero_of_dvd (Nat.dvd_lcm_right n q)]
   rfl
 | succ d ih =>
   intro k hk hkd
   have hlt : n * k + n ≤ Nat.lcm n q := by
     rw [← hK, ← Nat.mul_succ]
     exact Nat.mul_le_mul_left _ (by omega)
   have hnd : n * k % q ≠ 0 := fun h => by
     have h1 := Nat.le_of_dvd (Nat.mul_pos hn hk) (Nat.lcm_dvd (Nat.dvd_mul_right n k) (Nat.dvd_of_mod_eq_zero h))
     omega
   rw [law16_CycleLayers_l2_eq]
   simp only [law16_CycleLayers_l2_step]
   rw [beq_f (show (q : Int) ≠ 0 by omega), tmod_nn (by omega), ← Int.natCast_emod, show ((((n * k % q : Nat) : Int)) != 0) = true by simp only [bne_iff_ne, ne_eq]; omega, w64_in (x := ((n * k : Nat) : Int) + (n : Int)) (by omega) (by omega)]
   simp only [Bool.not_false, cond_true, lpK_inl]
   rw [← Int.natCast_add, ← Nat.mul_succ]
   exact ih (k + 1) (by omega) (by omega)
theorem cl0_lp {nz np nc : Nat} {ls : List LayerT} (h : ∀ L ∈ ls, LCk nz np nc L) (hl : ls.length ≤ 100) {p : Nat} (hp : p ≤ 4294967296) : ∀ (n i s : Nat), i + n = ls.length → 1 ≤ s → s ≤ 4294967296 → foldN s (ls.drop i) = p →
   law16_CycleLayers_l0 (p : Int) ls (s : Int) (ls.length : Int) (i : Int) = some (.inr ((p : Int), (p : Int)))
 | 0, i, s, hi, _, _, hf => by
   rw [List.drop_of_length_le (by omega)] at hf
   rw [law16_CycleLayers_l0_eq]
   simp only [law16_CycleLayers_l0_step]
   rw [dec_false (by omega), cond_false, lpK_inr, ← hf]
   rfl
 | n + 1, i, s, hi, s0, s1, hf => by
   have hi' : i < ls.length := by omega
   have hL := h _ (List.getElem_mem hi')
   obtain ⟨q0, q1⟩ := perN_b hL
   have hgd : ls.getD i (ByteArray.empty, ((0 : Int), (((0 : Int), (0 : Int)), ((0 : Int), ((0 : Int), (([] : List Int), (([] : List (Int × Int)), ((0 : Int), (0 : Int))))))))) = ls[i] := by simp [List.getD, hi']
   rw [List.drop_eq_getElem_cons hi'] at hf
   have hr : ∀ L ∈ ls[i] :: ls.drop (i + 1), LCk nz np nc L := fun L hL' => by
     rw [← List.drop_eq_getElem_cons hi'] at hL'
     exact h L (List.mem_of_mem_drop hL')
   have hr2 : ∀ L ∈ ls.drop (i + 1), LCk nz np nc L := fun L hL' => h L (List.mem_of_mem_drop hL')
   obtain ⟨_, hdv⟩ := fold_dvd _ s hr (by omega)
   have hdv := hdv ls[i] List.mem_cons_self
   obtain ⟨f1, f2⟩ := fold_cons hr2 (L := ls[i]) (n := s) (by omega)
   rw [hf] at hdv
   rw [f2] at hf
   have hs1 : 1 ≤ Nat.lcm s (perN ls[i]) := Nat.lcm_pos s0 q0
   have hle := le_lcm s0 q0
   have hK := lcm_div s (perN ls[i])
   generalize perN ls[i] / Nat.gcd s (perN ls[i]) = K at hK
   have hk1 : 1 ≤ K := by
     apply Classical.byContradiction; intro hc
     have h0 : K = 0 := by omega
     rw [h0, Nat.mul_zero] at hK
     omega
   have l2 := cl2_lp (p := (p : Int)) (a := (ls.length : Int)) (b := (i : Int)) (ls := ls) s0 q0 f1 hK (K - 1) 1 (by omega) (by omega)
   rw [Nat.mul_one] at l2
   have ih := cl0_lp h hl hp n (i + 1) _ (by omega) hs1 f1 hf
   rw [law16_CycleLayers_l0_eq]
   simp only [law16_CycleLayers_l0_step]
   rw [dec_true (by omega), inR_t (by omega) (by omega)]
   simp only [cond_true, Int.toNat_natCast, hgd]
   rw [show cycle_Layer (ls[i].1, (ls[i].2.1, ((ls[i].2.2.1.1, ls[i].2.2.1.2), (ls[i].2.2.2.1, (ls[i].2.2.2.2.1, (ls[i].2.2.2.2.2.1, (ls[i].2.2.2.2.2.2.1, (ls[i].2.2.2.2.2.2.2.1, ls[i].2.2.2.2.2.2.2.2)))))))) = _ from CLayer_ok hL]
   simp only [Option.bind_some, bne_self_eq_false, cond_false]
   rw [beq_f (show (perN ls[i] : Int) ≠ 0 by omega), dec_false (show ¬ (perN ls[i] : Int) ≤ 0 by omega), tmod_nn (by omega), ← Int.natCast_emod, Nat.mod_eq_zero_of_dvd hdv]
   simp only [Bool.not_false, Bool.true_or, cond_true, cond_false, Int.natCast_zero, bne_self_eq_false, l2, Option.bind_some]
   rw [w64_in (x := (i : Int) + 1) (by omega) (by omega), lpK_inl]
   exact ih
theorem CycleLayers_true (t : List Int) (_h : Wf (.list (.int .i64)) t) : law16_CycleLayers t = some true := by
 simp only [law16_CycleLayers, made_Light, Option.bind_some, show Int.ofNat (List.length t) = (t.length : Int) from rfl]
 by_cases hl : (t.length : Int) ≤ 500
 · rw [dec_true hl]
   simp only [Bool.not_true, cond_false, made_Roll, Option.bind_some]
   obtain ⟨zs, ps, cs, ss, a1, e1, hs, g0, g1, g2, g3, d1⟩ := ConfigN_ok (L := t) (a := 0) (n := 1) ⟨by omega, by omega, by omega⟩ (by omega) (by omega)
   have hc := cfgN_of hs (ss := ss) (by omega) (by rw [g2]; exact nms3_ok.take _) (fun s h => (g3 s h).ck)
   have hgd : ss.getD 0 (ByteArray.empty, (([] : List LayerT), ([] : List EditT))) = ss[0] := by simp [List.getD, show 0 < ss.length by omega]
   have hk := g3 ss[0] (List.getElem_mem _)
   have hll := hk.ll
   simp only [e1, Option.bind_some]
   rw [show cycle_Period (zs, (ps, (cs, ss))) 0 = _ from Period_ok hc (i := 0) (by dsimp only; omega)]
   dsimp only
   by_cases hb : pN ss[0] > 4294967296
   · rw [if_pos hb]
     simp only [Option.bind_some, sane16]
     rfl
   · rw [if_neg hb]
     have lp := cl0_lp hk.ck.ly (by omega) (p := pN ss[0]) (by omega) ss[0].2.1.length 0 604800 (by omega) (by omega) (by omega) (by rw [List.drop_zero]; rfl)
     simp only [Option.bind_some, bne_self_eq_false, cond_false]
     rw [inR_t (by omega) (by omega)]
     simp only [cond_true, hgd, show Int.ofNat ss[0].2.1.length = (ss[0].2.1.length : Int) from rfl]
     rw [show law16_CycleLayers_l0 (pN ss[0] : Int) ss[0].2.1 604800 (ss[0].2.1.length : Int) 0 = _ from lp]
     simp only [Option.bind_some, sumC_inr, beq_self_eq_true, cond_true, sane16]
 · rw [dec_false hl]
   simp only [Bool.not_false, cond_true, sane16, Option.bind_some]
end Go.Proofs.Pw
