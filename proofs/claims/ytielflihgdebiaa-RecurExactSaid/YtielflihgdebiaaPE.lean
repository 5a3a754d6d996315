/- The staff and the layers that the dice make. -/
import Derived.Test.YtielflihgdebiaaPC
open Go Go.Lft
namespace Go.Proofs.Pw

abbrev ZoneT := ByteArray × (Int × List Rule)
abbrev PersonT := ByteArray × (Int × (WL × (Int × (Int × Bool))))
abbrev CalT := ByteArray × (Int × List Int)
abbrev LayerT := ByteArray × (Int × ((Int × Int) × (Int × (Int × (List Int × (WL × (Int × Int)))))))
abbrev SchedT := ByteArray × (List LayerT × List (Int × (Int × (Int × (Int × Int)))))

def ZOk (z : ZoneT) : Prop := MZ z.2.1 z.2.2

theorem Bool_ok {L : List Int} {a n : Int} (h : DOk L a) (hn : 1 ≤ n) (hn2 : n ≤ 1000000) : ∃ b a', made_Dice_Bool L a n = some (b, L, a') ∧ DOk L a' := by
  obtain ⟨x, a1, e1, x0, x1, d1⟩ := Next_ok (n := n) h (by omega) (by omega)
  simp only [made_Dice_Bool, e1, Option.bind_some]
  exact ⟨_, _, rfl, d1⟩

theorem Staff_l0 {L : List Int} : ∀ (n : Nat) (a : Int) (zs : List ZoneT), DOk L a → zs.length + n ≤ 2 → (∀ z ∈ zs, ZOk z) →
    ∃ zs' a', made_Dice_Staff_l0 (n : Int) L a zs = some (L, a', zs') ∧ zs'.length = zs.length + n ∧ (∀ z ∈ zs', ZOk z) ∧ DOk L a'
  | 0, a, zs, hd, _, hz => by
    rw [made_Dice_Staff_l0_eq]
    simp only [made_Dice_Staff_l0_step]
    rw [dec_false (by omega), cond_false, lpK_inr]
    exact ⟨zs, a, rfl, rfl, hz, hd⟩
  | n + 1, a, zs, hd, hl, hz => by
    obtain ⟨o, rs, a1, e1, m1, d1⟩ := Zone_ok hd (List.getD [(ByteArray.mk #[104, 101, 114, 101]), (ByteArray.mk #[116, 104, 101, 114, 101])] zs.length ByteArray.empty)
    obtain ⟨zs', a', e2, h2, h3, h4⟩ := Staff_l0 n a1 (zs ++ [(List.getD [(ByteArray.mk #[104, 101, 114, 101]), (ByteArray.mk #[116, 104, 101, 114, 101])] zs.length ByteArray.empty, (o, rs))]) d1 (by simp; omega) (fun z hz' => by
      rcases List.mem_append.1 hz' with h | h
      · exact hz z h
      · simp at h; subst h; exact m1)
    rw [made_Dice_Staff_l0_eq]
    simp only [made_Dice_Staff_l0_step, show Int.ofNat (List.length zs) = (zs.length : Int) from rfl]
    rw [dec_true (by omega), inR_t (show (0 : Int) ≤ (zs.length : Int) by omega) (by simp; omega)]
    simp only [cond_true, Int.toNat_natCast, e1, Option.bind_some]
    rw [dec_true (by simp [sizeMax]; omega), w64_in (x := ((n + 1 : Nat) : Int) - 1) (by omega) (by omega)]
    simp only [cond_true, lpK_inl]
    rw [show ((n + 1 : Nat) : Int) - 1 = (n : Int) by omega]
    exact ⟨zs', a', e2, by rw [h2]; simp; omega, h3, h4⟩

theorem names_ok : ∃ l, made_names = some l ∧ 4 ≤ l.length := ⟨_, rfl, by simp⟩

theorem Staff_l2 {L : List Int} {zs : List ZoneT} (hz0 : 1 ≤ zs.length) (hz1 : zs.length ≤ 100) : ∀ (n : Nat) (a : Int) (ps : List PersonT), DOk L a → ps.length + n ≤ 4 →
    ∃ ps' a', made_Dice_Staff_l2 (n : Int) L a zs ps = some (L, a', zs, ps') ∧ ps'.length = ps.length + n ∧ DOk L a'
  | 0, a, ps, hd, _ => by
    rw [made_Dice_Staff_l2_eq]
    simp only [made_Dice_Staff_l2_step]
    rw [dec_false (by omega), cond_false, lpK_inr]
    exact ⟨ps, a, rfl, rfl, hd⟩
  | n + 1, a, ps, hd, hl => by
    obtain ⟨nl, en, hnl⟩ := names_ok
    obtain ⟨x, a1, e1, x0, x1, d1⟩ := Next_ok (n := (zs.length : Int)) hd (by omega) (by omega)
    obtain ⟨b, a2, e2, d2⟩ := Bool_ok (n := 3) d1 (by omega) (by omega)
    obtain ⟨c, a3, e3, d3⟩ := Bool_ok (n := 2) d2 (by omega) (by omega)
    rw [made_Dice_Staff_l2_eq]
    simp only [made_Dice_Staff_l2_step, en, Option.bind_some, show Int.ofNat (List.length ps) = (ps.length : Int) from rfl, show Int.ofNat (List.length zs) = (zs.length : Int) from rfl]
    rw [dec_true (by omega), inR_t (show (0 : Int) ≤ (ps.length : Int) by omega) (by omega)]
    simp only [cond_true, e1, e2, e3, Option.bind_some]
    rw [w64_in (x := ((n + 1 : Nat) : Int) - 1) (by omega) (by omega), show ((n + 1 : Nat) : Int) - 1 = (n : Int) by omega]
    cases c with
    | true =>
      obtain ⟨w, a4, e4, _, _, d4⟩ := Windows_ok d3
      obtain ⟨p, a5, e5, _, d5⟩ := Pick_ok d4 (xs := [(0 : Int), (40 : Int), (100 : Int), (12 : Int)]) (by simp) (by simp)
      obtain ⟨q, a6, e6, _, d6⟩ := Pick_ok d5 (xs := [(0 : Int), (11 : Int), (24 : Int), (1 : Int)]) (by simp) (by simp)
      simp only [cond_true, e4, e5, e6, Option.bind_some]
      rw [dec_true (by simp [sizeMax]; omega)]
      simp only [cond_true, lpK_inl]
      obtain ⟨ps', a', e, h1, h2⟩ := Staff_l2 hz0 hz1 n a6 (ps ++ [(List.getD nl (Int.toNat (ps.length : Int)) ByteArray.empty, (x, (w, (w64 (3600 * p), (w64 (3600 * q), b)))))]) d6 (by simp; omega)
      exact ⟨ps', a', e, by rw [h1]; simp; omega, h2⟩
    | false =>
      obtain ⟨p, a5, e5, _, d5⟩ := Pick_ok d3 (xs := [(0 : Int), (40 : Int), (100 : Int), (12 : Int)]) (by simp) (by simp)
      obtain ⟨q, a6, e6, _, d6⟩ := Pick_ok d5 (xs := [(0 : Int), (11 : Int), (24 : Int), (1 : Int)]) (by simp) (by simp)
      simp only [cond_false, e5, e6, Option.bind_some]
      rw [dec_true (by simp [sizeMax]; omega)]
      simp only [cond_true, lpK_inl]
      obtain ⟨ps', a', e, h1, h2⟩ := Staff_l2 hz0 hz1 n a6 (ps ++ [(List.getD nl (Int.toNat (ps.length : Int)) ByteArray.empty, (x, (([] : WL), (w64 (3600 * p), (w64 (3600 * q), b)))))]) d6 (by simp; omega)
      exact ⟨ps', a', e, by rw [h1]; simp; omega, h2⟩

theorem Staff_l6 {L : List Int} {s : Int} {nm : ByteArray} {z : Int} {zs : List ZoneT} {ps : List PersonT} {cs : List CalT} : ∀ (n : Nat) (a day : Int) (ds : List Int), DOk L a → ds.length + n ≤ 4 →
    ∃ ds' a', made_Dice_Staff_l6 s (n : Int) day L a nm z zs ps cs ds = some (s, L, a', nm, z, zs, ps, cs, ds') ∧ DOk L a'
  | 0, a, day, ds, hd, _ => by
    rw [made_Dice_Staff_l6_eq]
    simp only [made_Dice_Staff_l6_step]
    rw [dec_false (by omega), cond_false, lpK_inr]
    exact ⟨ds, a, rfl, hd⟩
  | n + 1, a, day, ds, hd, hl => by
    obtain ⟨x, a1, e1, x0, x1, d1⟩ := Next_ok (n := 6) hd (by omega) (by omega)
    rw [made_Dice_Staff_l6_eq]
    simp only [made_Dice_Staff_l6_step]
    rw [dec_true (by omega), w64_in (x := ((n + 1 : Nat) : Int) - 1) (by omega) (by omega), show ((n + 1 : Nat) : Int) - 1 = (n : Int) by omega]
    simp only [cond_true, e1, Option.bind_some]
    rw [dec_true (by simp [sizeMax]; omega)]
    simp only [cond_true, lpK_inl]
    exact Staff_l6 n a1 _ _ d1 (by simp; omega)

theorem Staff_l4 {L : List Int} {zs : List ZoneT} {ps : List PersonT} (hz0 : 1 ≤ zs.length) (hz1 : zs.length ≤ 100) : ∀ (n : Nat) (a : Int) (cs : List CalT), DOk L a → cs.length + n ≤ 4 →
    ∃ cs' a', made_Dice_Staff_l4 (n : Int) L a zs ps cs = some (L, a', zs, ps, cs') ∧ cs'.length = cs.length + n ∧ DOk L a'
  | 0, a, cs, hd, _ => by
    rw [made_Dice_Staff_l4_eq]
    simp only [made_Dice_Staff_l4_step]
    rw [dec_false (by omega), cond_false, lpK_inr]
    exact ⟨cs, a, rfl, rfl, hd⟩
  | n + 1, a, cs, hd, hl => by
    obtain ⟨x, a1, e1, x0, x1, d1⟩ := Next_ok (n := (zs.length : Int)) hd (by omega) (by omega)
    obtain ⟨y, a2, e2, y0, y1, d2⟩ := Next_ok (n := 4) d1 (by omega) (by omega)
    obtain ⟨ds, a3, e3, d3⟩ := Staff_l6 (s := ((n + 1 : Nat) : Int)) (nm := ByteArray.mk #[100, 97, 121, 115]) (z := x) (zs := zs) (ps := ps) (cs := cs) y.toNat a2 20454 [] d2 (by simp; omega)
    rw [show ((y.toNat : Nat) : Int) = y by omega] at e3
    rw [made_Dice_Staff_l4_eq]
    simp only [made_Dice_Staff_l4_step, show Int.ofNat (List.length zs) = (zs.length : Int) from rfl]
    rw [dec_true (by omega)]
    simp only [cond_true, e1, e2, e3, Option.bind_some]
    rw [dec_true (by simp [sizeMax]; omega), w64_in (x := ((n + 1 : Nat) : Int) - 1) (by omega) (by omega), show ((n + 1 : Nat) : Int) - 1 = (n : Int) by omega]
    simp only [cond_true, lpK_inl]
    obtain ⟨cs', a', e, h1, h2⟩ := Staff_l4 (ps := ps) hz0 hz1 n a3 (cs ++ [(ByteArray.mk #[100, 97, 121, 115], (x, ds))]) d3 (by simp; omega)
    exact ⟨cs', a', e, by rw [h1]; simp; omega, h2⟩

/-- Staff that is right. -/
structure SOk (zs : List ZoneT) (ps : List PersonT) (cs : List CalT) : Prop where
  z0 : 1 ≤ zs.length
  z1 : zs.length ≤ 2
  ok : ∀ z ∈ zs, ZOk z
  p0 : 1 ≤ ps.length
  p1 : ps.length ≤ 4
  c1 : cs.length ≤ 1

theorem Staff_ok {L : List Int} {a : Int} (h : DOk L a) : ∃ zs ps cs a', made_Dice_Staff L a = some ((zs, (ps, (cs, ([] : List SchedT)))), L, a') ∧ SOk zs ps cs ∧ DOk L a' := by
  obtain ⟨x, a1, e1, x0, x1, d1⟩ := Next_ok (n := 2) h (by omega) (by omega)
  obtain ⟨zs, a2, e2, l2, k2, d2⟩ := Staff_l0 (1 + x).toNat a1 [] d1 (by simp; omega) (by simp)
  obtain ⟨y, a3, e3, y0, y1, d3⟩ := Next_ok (n := 4) d2 (by omega) (by omega)
  simp at l2
  obtain ⟨ps, a4, e4, l4, d4⟩ := Staff_l2 (zs := zs) (by omega) (by omega) (1 + y).toNat a3 [] d3 (by simp; omega)
  obtain ⟨q, a5, e5, q0, q1, d5⟩ := Next_ok (n := 2) d4 (by omega) (by omega)
  obtain ⟨cs, a6, e6, l6, d6⟩ := Staff_l4 (zs := zs) (ps := ps) (by omega) (by omega) q.toNat a5 [] d5 (by simp; omega)
  simp at l4 l6
  rw [show (((1 + x).toNat : Nat) : Int) = 1 + x by omega] at e2
  rw [show (((1 + y).toNat : Nat) : Int) = 1 + y by omega] at e4
  rw [show ((q.toNat : Nat) : Int) = q by omega] at e6
  simp only [made_Dice_Staff, e1, Option.bind_some]
  rw [w64_in (x := 1 + x) (by omega) (by omega)]
  simp only [e2, e3, Option.bind_some]
  rw [w64_in (x := 1 + y) (by omega) (by omega)]
  simp only [e4, e5, e6, Option.bind_some]
  exact ⟨zs, ps, cs, a6, rfl, ⟨by omega, by omega, k2, by omega, by omega, by omega⟩, d6⟩

/-- A layer that is right. -/
structure LOk (l : LayerT) : Prop where
  d0 : 20452 ≤ l.2.2.1.1
  d1 : l.2.2.1.1 ≤ 20457
  c0 : 0 ≤ l.2.2.1.2
  c1 : l.2.2.1.2 ≤ 79200
  u0 : 0 ≤ l.2.2.2.1
  u1 : l.2.2.2.1 ≤ 2
  e0 : 1 ≤ l.2.2.2.2.1
  e1 : l.2.2.2.2.1 ≤ 49
  e2 : l.2.2.2.1 ≠ 0 → l.2.2.2.2.1 ≤ 2
  m0 : 1 ≤ l.2.2.2.2.2.1.length
  m1 : l.2.2.2.2.2.1.length ≤ 3

theorem Layer_l0 {L : List Int} {zs : List ZoneT} {ps : List PersonT} {cs : List CalT} {ss : List SchedT} (hp0 : 1 ≤ ps.length) (hp1 : ps.length ≤ 100) {x0 y0 : ByteArray} {x1 x2 x3 x4 x5 x6 x7 y1 y2 y3 y4 y5 y6 y7 : Int} : ∀ (n : Nat) (a : Int) (ms : List Int), DOk L a → ms.length + n ≤ 4 →
    ∃ ms' a', made_Dice_Layer_l0 (n : Int) L a zs ps cs ss x0 x1 x2 x3 x4 x5 x6 x7 y0 y1 y2 y3 y4 y5 y6 y7 ms = some (L, a', zs, ps, cs, ss, x0, x1, x2, x3, x4, x5, x6, x7, y0, y1, y2, y3, y4, y5, y6, y7, ms') ∧ ms'.length = ms.length + n ∧ DOk L a'
  | 0, a, ms, hd, _ => by
    rw [made_Dice_Layer_l0_eq]
    simp only [made_Dice_Layer_l0_step]
    rw [dec_false (by omega), cond_false, lpK_inr]
    exact ⟨ms, a, rfl, rfl, hd⟩
  | n + 1, a, ms, hd, hl => by
    obtain ⟨x, a1, e1, _, _, d1⟩ := Next_ok (n := (ps.length : Int)) hd (by omega) (by omega)
    rw [made_Dice_Layer_l0_eq]
    simp only [made_Dice_Layer_l0_step, show Int.ofNat (List.length ps) = (ps.length : Int) from rfl]
    rw [dec_true (by omega), w64_in (x := ((n + 1 : Nat) : Int) - 1) (by omega) (by omega), show ((n + 1 : Nat) : Int) - 1 = (n : Int) by omega]
    simp only [cond_true, e1, Option.bind_some]
    rw [dec_true (by simp [sizeMax]; omega)]
    simp only [cond_true, lpK_inl]
    obtain ⟨ms', a', e, h1, h2⟩ := Layer_l0 (zs := zs) (cs := cs) (ss := ss) hp0 hp1 (x0 := x0) (x1 := x1) (x2 := x2) (x3 := x3) (x4 := x4) (x5 := x5) (x6 := x6) (x7 := x7) (y0 := y0) (y1 := y1) (y2 := y2) (y3 := y3) (y4 := y4) (y5 := y5) (y6 := y6) (y7 := y7) n a1 (ms ++ [x]) d1 (by simp; omega)
    exact ⟨ms', a', e, by rw [h1]; simp; omega, h2⟩

theorem Layer_ok {L : List Int} {a : Int} (h : DOk L a) {zs : List ZoneT} {ps : List PersonT} {cs : List CalT} {ss : List SchedT} (hs : SOk zs ps cs) (nm : ByteArray) :
    ∃ l a', made_Dice_Layer L a (zs, (ps, (cs, ss))) nm = some (l, L, a') ∧ LOk l ∧ 0 ≤ l.2.1 ∧ l.2.1 < (zs.length : Int) ∧ DOk L a' := by
  have hz0 := hs.z0; have hz1 := hs.z1; have hp0 := hs.p0; have hp1 := hs.p1; have hc1 := hs.c1
  obtain ⟨z, a1, e1, z0, z1, d1⟩ := Next_ok (n := (zs.length : Int)) h (by omega) (by omega)
  obtain ⟨x, a2, e2, x0, x1, d2⟩ := Next_ok (n := 6) d1 (by omega) (by omega)
  obtain ⟨s, a3, e3, m3, d3⟩ := Pick_ok d2 (xs := [(0 : Int), (32400 : Int), (7200 : Int), (9000 : Int), (79200 : Int), (1 : Int)]) (by simp) (by simp)
  obtain ⟨u, a4, e4, u0, u1, d4⟩ := Next_ok (n := 3) d3 (by omega) (by omega)
  obtain ⟨v, a5, e5, v0, v1, d5⟩ := Next_ok (n := 2) d4 (by omega) (by omega)
  have hs' : 0 ≤ s ∧ s ≤ 79200 := by simp at m3; omega
  simp only [made_Dice_Layer, show Int.ofNat (List.length zs) = (zs.length : Int) from rfl, e1, e2, e3, e4, e5, Option.bind_some]
  rw [w64_in (x := 20454 + x) (by omega) (by omega), w64_in (x := 20454 + x - 2) (by omega) (by omega), w64_in (x := 1 + v) (by omega) (by omega)]
  have fin : ∀ (ev a6 : Int), DOk L a6 → 1 ≤ ev → ev ≤ 49 → (u ≠ 0 → ev ≤ 2) → ∀ ms : List Int, 1 ≤ ms.length → ms.length ≤ 3 → ∀ (w : WL) (c m : Int) (a' : Int), DOk L a' → ∃ l a'', some ((nm, (z, ((20454 + x - 2, s), (u, (ev, (ms, (w, (c, m)))))))), L, a') = some (l, L, a'') ∧ LOk l ∧ 0 ≤ l.2.1 ∧ l.2.1 < (zs.length : Int) ∧ DOk L a'' :=
    fun ev a6 _ h1 h2 h3 ms h4 h5 w c m a' hd => ⟨_, _, rfl, ⟨by dsimp only; omega, by dsimp only; omega, hs'.1, hs'.2, u0, by dsimp only; omega, h1, h2, h3, h4, h5⟩, z0, z1, hd⟩
  by_cases hu : u = 0
  · rw [beq_t hu, cond_true]
    obtain ⟨ev, a6, e6, m6, d6⟩ := Pick_ok d5 (xs := [(6 : Int), (8 : Int), (12 : Int), (24 : Int), (23 : Int), (49 : Int)]) (by simp) (by simp)
    have hev : 1 ≤ ev ∧ ev ≤ 49 := by simp at m6; omega
    obtain ⟨n, a7, e7, n0, n1, d7⟩ := Next_ok (n := 3) d6 (by omega) (by omega)
    obtain ⟨ms, a8, e8, l8, d8⟩ := Layer_l0 (L := L) (zs := zs) (ps := ps) (cs := cs) (ss := ss) hp0 (by omega) (x0 := ByteArray.empty) (x1 := 0) (x2 := 0) (x3 := 0) (x4 := 0) (x5 := 0) (x6 := 0) (x7 := 0) (y0 := nm) (y1 := z) (y2 := 20454 + x - 2) (y3 := s) (y4 := u) (y5 := ev) (y6 := 0) (y7 := 0) (1 + n).toNat a7 [] d7 (by simp; omega)
    rw [show (((1 + n).toNat : Nat) : Int) = 1 + n by omega] at e8
    simp at l8
    obtain ⟨b, a9, e9, d9⟩ := Bool_ok (n := 2) d8 (by omega) (by omega)
    simp only [e6, e7, Option.bind_some]
    rw [w64_in (x := 1 + n) (by omega) (by omega)]
    simp only [e8, e9, Option.bind_some, show Int.ofNat (List.length cs) = (cs.length : Int) from rfl]
    cases b with
    | true =>
      obtain ⟨w, a10, e10, _, _, d10⟩ := Windows_ok d9
      obtain ⟨c, a11, e11, d11⟩ := Bool_ok (n := 4) d10 (by omega) (by omega)
      simp only [cond_true, e10, e11, Option.bind_some]
      by_cases hcc : c = true ∧ (cs.length : Int) > 0
      · obtain ⟨i, a12, e12, _, _, d12⟩ := Next_ok (n := (cs.length : Int)) d11 (by omega) (by omega)
        obtain ⟨j, a13, e13, _, _, d13⟩ := Next_ok (n := 2) d12 (by omega) (by omega)
        rw [hcc.1, dec_true hcc.2]
        simp only [cond_true, e12, e13, Option.bind_some]
        exact fin ev a6 d6 hev.1 hev.2 (fun h => absurd hu h) ms (by omega) (by omega) _ _ _ _ d13
      · have hc0 : cond c (decide ((cs.length : Int) > 0)) false = false := by
          cases c with
          | true => exact dec_false (fun h => hcc ⟨rfl, h⟩)
          | false => rfl
        rw [hc0]
        simp only [cond_false]
        exact fin ev a6 d6 hev.1 hev.2 (fun h => absurd hu h) ms (by omega) (by omega) _ _ _ _ d11
    | false =>
      obtain ⟨c, a11, e11, d11⟩ := Bool_ok (n := 4) d9 (by omega) (by omega)
      simp only [cond_false, e11, Option.bind_some]
      by_cases hcc : c = true ∧ (cs.length : Int) > 0
      · obtain ⟨i, a12, e12, _, _, d12⟩ := Next_ok (n := (cs.length : Int)) d11 (by omega) (by omega)
        obtain ⟨j, a13, e13, _, _, d13⟩ := Next_ok (n := 2) d12 (by omega) (by omega)
        rw [hcc.1, dec_true hcc.2]
        simp only [cond_true, e12, e13, Option.bind_some]
        exact fin ev a6 d6 hev.1 hev.2 (fun h => absurd hu h) ms (by omega) (by omega) _ _ _ _ d13
      · have hc0 : cond c (decide ((cs.length : Int) > 0)) false = false := by
          cases c with
          | true => exact dec_false (fun h => hcc ⟨rfl, h⟩)
          | false => rfl
        rw [hc0]
        simp only [cond_false]
        exact fin ev a6 d6 hev.1 hev.2 (fun h => absurd hu h) ms (by omega) (by omega) _ _ _ _ d11
  · rw [beq_f hu, cond_false]
    obtain ⟨n, a7, e7, n0, n1, d7⟩ := Next_ok (n := 3) d5 (by omega) (by omega)
    obtain ⟨ms, a8, e8, l8, d8⟩ := Layer_l0 (L := L) (zs := zs) (ps := ps) (cs := cs) (ss := ss) hp0 (by omega) (x0 := ByteArray.empty) (x1 := 0) (x2 := 0) (x3 := 0) (x4 := 0) (x5 := 0) (x6 := 0) (x7 := 0) (y0 := nm) (y1 := z) (y2 := 20454 + x - 2) (y3 := s) (y4 := u) (y5 := 1 + v) (y6 := 0) (y7 := 0) (1 + n).toNat a7 [] d7 (by simp; omega)
    rw [show (((1 + n).toNat : Nat) : Int) = 1 + n by omega] at e8
    simp at l8
    obtain ⟨b, a9, e9, d9⟩ := Bool_ok (n := 2) d8 (by omega) (by omega)
    simp only [e7, Option.bind_some]
    rw [w64_in (x := 1 + n) (by omega) (by omega)]
    simp only [e8, e9, Option.bind_some, show Int.ofNat (List.length cs) = (cs.length : Int) from rfl]
    cases b with
    | true =>
      obtain ⟨w, a10, e10, _, _, d10⟩ := Windows_ok d9
      obtain ⟨c, a11, e11, d11⟩ := Bool_ok (n := 4) d10 (by omega) (by omega)
      simp only [cond_true, e10, e11, Option.bind_some]
      by_cases hcc : c = true ∧ (cs.length : Int) > 0
      · obtain ⟨i, a12, e12, _, _, d12⟩ := Next_ok (n := (cs.length : Int)) d11 (by omega) (by omega)
        obtain ⟨j, a13, e13, _, _, d13⟩ := Next_ok (n := 2) d12 (by omega) (by omega)
        rw [hcc.1, dec_true hcc.2]
        simp only [cond_true, e12, e13, Option.bind_some]
        exact fin (1 + v) a5 d5 (by omega) (by omega) (by omega) ms (by omega) (by omega) _ _ _ _ d13
      · have hc0 : cond c (decide ((cs.length : Int) > 0)) false = false := by
          cases c with
          | true => exact dec_false (fun h => hcc ⟨rfl, h⟩)
          | false => rfl
        rw [hc0]
        simp only [cond_false]
        exact fin (1 + v) a5 d5 (by omega) (by omega) (by omega) ms (by omega) (by omega) _ _ _ _ d11
    | false =>
      obtain ⟨c, a11, e11, d11⟩ := Bool_ok (n := 4) d9 (by omega) (by omega)
      simp only [cond_false, e11, Option.bind_some]
      by_cases hcc : c = true ∧ (cs.length : Int) > 0
      · obtain ⟨i, a12, e12, _, _, d12⟩ := Next_ok (n := (cs.length : Int)) d11 (by omega) (by omega)
        obtain ⟨j, a13, e13, _, _, d13⟩ := Next_ok (n := 2) d12 (by omega) (by omega)
        rw [hcc.1, dec_true hcc.2]
        simp only [cond_true, e12, e13, Option.bind_some]
        exact fin (1 + v) a5 d5 (by omega) (by omega) (by omega) ms (by omega) (by omega) _ _ _ _ d13
      · have hc0 : cond c (decide ((cs.length : Int) > 0)) false = false := by
          cases c with
          | true => exact dec_false (fun h => hcc ⟨rfl, h⟩)
          | false => rfl
        rw [hc0]
        simp only [cond_false]
        exact fin (1 + v) a5 d5 (by omega) (by omega) (by omega) ms (by omega) (by omega) _ _ _ _ d11
end Go.Proofs.Pw

/- Chapter 10: handovers. -/
open Go Go.Lft
namespace Go.Proofs.Pw

/-- The first instant at which the clock shows at least this, and its piece. -/
structure Fst (o : Int) (l : TrL) (s t : Int) (k : Nat) : Prop where
  hk : k ≤ l.length
  hks : s - tof o l k < frm l (k + 1)
  bef : ∀ j, j < k → frm l (j + 1) ≤ s - tof o l j
  ht : t = max (frm l k) (s - tof o l k)

/-- Offsets leap by less than a day. -/
def Dif (o : Int) (l : TrL) : Prop := ∀ i, i < l.length → -86400 < tof o l (i + 1) - tof o l i ∧ tof o l (i + 1) - tof o l i < 86400

section
variable {o : Int} {l : TrL} (h : TOk o l)
include h

theorem ex_first {s : Int} (h1 : s ≤ 8000000000) : ∃ t k, Fst o l s t k := by
  have o1 := h.of0 l.length (by omega)
  have he := frm_end (l := l)
  obtain ⟨a, ⟨ha, haN⟩, hmin⟩ := least (fun j => s - tof o l j < frm l (j + 1) ∧ j ≤ l.length) l.length ⟨by rw [he]; omega, by omega⟩
  refine ⟨_, a, haN, ha, fun j hj => ?_, rfl⟩
  rcases Int.lt_or_le (s - tof o l j) (frm l (j + 1)) with h' | h'
  · have := hmin j ⟨h', by omega⟩; omega
  · exact h'

theorem Fst.piece {s t : Int} {k : Nat} (f : Fst o l s t k) : frm l k ≤ t ∧ t < frm l (k + 1) ∧ s ≤ t + tof o l k := by
  have h1 := h.frm_lt f.hk
  have h2 := f.hks
  have h3 := f.ht
  omega

theorem Fst.up {s s' t t' : Int} {k k' : Nat} (hd : Dif o l) (hs : 200000 < s) (he : s + 86400 ≤ s') (f : Fst o l s t k) (g : Fst o l s' t' k') : t < t' := by
  obtain ⟨p1, p2, p3⟩ := f.piece h
  obtain ⟨q1, q2, q3⟩ := g.piece h
  have g1 := g.hks
  have g2 := g.ht
  have f2 := f.ht
  have hkN := f.hk
  have hkN' := g.hk
  rcases Nat.lt_trichotomy k k' with hlt | heq | hgt
  · have m1 := h.frm_le (i := k + 1) (j := k') (by omega) (by omega)
    omega
  · subst heq
    by_cases h0 : k = 0
    · subst h0
      have e0 : frm l 0 = 0 := frm0
      have o1 := h.of1 0 (by omega)
      omega
    · obtain ⟨j, rfl⟩ : ∃ j, k = j + 1 := ⟨k - 1, by omega⟩
      have b := f.bef j (by omega)
      have d := hd j (by omega)
      omega
  · have := f.bef k' hgt
    omega

/-- Where such an instant lies. -/
theorem Fst.around {s t : Int} {k : Nat} (f : Fst o l s t k) (hs : 200000 < s) : s - 64800 ≤ t ∧ t ≤ s + 64800 := by
  obtain ⟨p1, p2, p3⟩ := f.piece h
  have hk := f.hk
  have o1 := h.of1 k hk
  have o0 := h.of0 k hk
  have ht := f.ht
  refine ⟨by omega, ?_⟩
  by_cases h0 : k = 0
  · subst h0
    have e0 : frm l 0 = 0 := frm0
    omega
  · obtain ⟨j, rfl⟩ : ∃ j, k = j + 1 := ⟨k - 1, by omega⟩
    have b := f.bef j (by omega)
    have o2 := h.of0 j (by omega)
    omega
end

/-- The first instant, as a number. -/
noncomputable def fstI (o : Int) (l : TrL) (s : Int) : Int := open Classical in if h : ∃ t k, Fst o l s t k then Classical.choose h else 0
theorem fstI_ok {o : Int} {l : TrL} (h : TOk o l) {s : Int} (h1 : s ≤ 8000000000) : ∃ k, Fst o l s (fstI o l s) k := by
  have he := ex_first h h1
  unfold fstI
  rw [dif_pos he]
  exact Classical.choose_spec he

theorem First_fst {o : Int} {l : TrL} (h : TOk o l) {d c : Int} (hd : -1000000 ≤ d) (hd2 : d * 86400 + c ≤ 8000000000) (hc : 0 ≤ c) (hc2 : c ≤ 86399) : zone_Table_First (o, l) (d, c) = some (fstI o l (d * 86400 + c), true) := by
  obtain ⟨k, f⟩ := fstI_ok h hd2
  rw [f.ht]
  exact First_ok h hd (by omega) (by omega) (by omega) f.hk f.hks f.bef

/-- The days of a shift; the local time of a handover; the handover. -/
def stepD (L : LayerT) : Int := if L.2.2.2.1 = 2 then 7 * L.2.2.2.2.1 else L.2.2.2.2.1
def sLoc (L : LayerT) (k : Int) : Int := (L.2.2.1.1 + k * stepD L) * 86400 + L.2.2.1.2
noncomputable def hov (o : Int) (l : TrL) (L : LayerT) (k : Int) : Int := if L.2.2.2.1 = 0 then fstI o l (sLoc L 0) + 3600 * L.2.2.2.2.1 * k else fstI o l (sLoc L k)

/-- Layers that the functions take. -/
structure LR (L : LayerT) : Prop where
  d0 : 100 ≤ L.2.2.1.1
  d1 : L.2.2.1.1 ≤ 30000
  c0 : 0 ≤ L.2.2.1.2
  c1 : L.2.2.1.2 ≤ 86399
  u0 : 0 ≤ L.2.2.2.1
  u1 : L.2.2.2.1 ≤ 2
  e0 : 1 ≤ L.2.2.2.2.1
  e1 : L.2.2.2.2.1 ≤ 49
  m0 : 1 ≤ L.2.2.2.2.2.1.length
  m1 : L.2.2.2.2.2.1.length ≤ 1000

theorem LOk.lr {L : LayerT} (h : LOk L) : LR L := ⟨by have := h.d0; omega, by have := h.d1; omega, h.c0, by have := h.c1; omega, h.u0, h.u1, h.e0, h.e1, h.m0, by have := h.m1; omega⟩

theorem LR.step {L : LayerT} (h : LR L) : 1 ≤ stepD L ∧ stepD L ≤ 343 := by
  have := h.e0; have := h.e1
  unfold stepD; split <;> omega

theorem recur_in_t {n lo hi : Int} (h1 : lo ≤ n) (h2 : n ≤ hi) : recur_in n lo hi = some true := by
  simp only [recur_in]
  rw [dec_true (show n ≥ lo from h1), dec_true h2]; rfl

theorem right_ok {L : LayerT} (h : LR L) : recur_right L = some true := by
  have hm := h.m0
  simp only [recur_right, recur_in_t (show (1 : Int) ≤ L.2.2.1.1 by have := h.d0; omega) (show L.2.2.1.1 ≤ 100000 by have := h.d1; omega), recur_in_t h.c0 h.c1, recur_in_t h.u0 h.u1, recur_in_t h.e0 (show L.2.2.2.2.1 ≤ 400 by have := h.e1; omega), Option.bind_some, cond_true]
  rw [dec_true (show Int.ofNat L.2.2.2.2.2.1.length > 0 by show (0 : Int) < (L.2.2.2.2.2.1.length : Int); omega)]

theorem ropen_ok {z : ZoneT} {l : TrL} (hz : ZTab z l) {L : LayerT} (h : LR L) : recur_open z L = some ((z.2.1, l), true) := by
  simp only [recur_open, show zone_Of (z.1, (z.2.1, z.2.2)) = _ from Of_ok hz, Option.bind_some, beq_self_eq_true, cond_true]
  rw [show recur_right (L.1, L.2.1, (L.2.2.1.1, L.2.2.1.2), L.2.2.2.1, L.2.2.2.2.1, L.2.2.2.2.2.1, L.2.2.2.2.2.2.1, L.2.2.2.2.2.2.2.1, L.2.2.2.2.2.2.2.2) = _ from right_ok h]
  rfl

theorem step_ok {L : LayerT} (h : LR L) : recur_step L = some (stepD L) := by
  have := h.e0; have := h.e1
  simp only [recur_step, stepD]
  by_cases h2 : L.2.2.2.1 = 2
  · rw [beq_t h2, cond_true, if_pos h2, w64_in (by omega) (by omega)]
  · rw [beq_f h2, cond_false, if_neg h2]

theorem mulD {a b m : Int} (h1 : 0 ≤ a) (h2 : 1 ≤ b) (h3 : a * b ≤ m) : a ≤ m := by
  have := Int.mul_le_mul_of_nonneg_left h2 h1
  omega

/-- A handover up to some years. -/
theorem HandoverOf_ok {o : Int} {l : TrL} (ht : TOk o l) {L : LayerT} (h : LR L) {k : Int} (hk : 0 ≤ k) (hk2 : L.2.2.2.1 = 0 → k ≤ 20000) (hk3 : L.2.2.2.1 ≠ 0 → k * stepD L ≤ 50000) : recur_HandoverOf (o, l) L k = some (hov o l L k, true) := by
  have hs := h.step
  have hd0 := h.d0; have hd1 := h.d1; have hc0 := h.c0; have hc1 := h.c1; have he0 := h.e0; have he1 := h.e1
  have hstep : recur_step (L.1, L.2.1, (L.2.2.1.1, L.2.2.1.2), L.2.2.2.1, L.2.2.2.2.1, L.2.2.2.2.2.1, L.2.2.2.2.2.2.1, L.2.2.2.2.2.2.2.1, L.2.2.2.2.2.2.2.2) = _ := step_ok h
  simp only [recur_HandoverOf, hstep, Option.bind_some]
  by_cases h0 : L.2.2.2.1 = 0
  · have hk2 := hk2 h0
    have hF := First_fst ht (d := L.2.2.1.1) (c := L.2.2.1.2) (by omega) (by omega) hc0 hc1
    obtain ⟨j, f⟩ := fstI_ok ht (s := L.2.2.1.1 * 86400 + L.2.2.1.2) (by omega)
    have ha := f.around ht (by omega)
    have hm0 : 0 ≤ 3600 * L.2.2.2.2.1 * k := Int.mul_nonneg (by omega) hk
    have hm1 : 3600 * L.2.2.2.2.1 * k ≤ 3600 * 49 * 20000 := Int.mul_le_mul (by omega) hk2 hk (by omega)
    rw [dec_false (show ¬ k > 8589934592 by omega), cond_false, show (L.2.2.2.1 != 0) = false by rw [h0]; rfl, cond_false, hF]
    simp only [Option.bind_some, cond_true]
    rw [w64_in (x := 3600 * L.2.2.2.2.1) (by omega) (by omega), w64_in (x := 3600 * L.2.2.2.2.1 * k) (by omega) (by omega), w64_in (by omega) (by omega), dec_true (by omega)]
    unfold hov
    rw [if_pos h0]
    simp only [sLoc, Int.zero_mul, Int.add_zero]
  · have hk3 := hk3 h0
    have hkk := mulD hk hs.1 hk3
    have hm0 : 0 ≤ k * stepD L := Int.mul_nonneg hk (by omega)
    rw [dec_false (show ¬ k > 8589934592 by omega), cond_false, show (L.2.2.2.1 != 0) = true by simp [h0], cond_true, w64_in (x := k * stepD L) (by omega) (by omega), w64_in (x := L.2.2.1.1 + k * stepD L) (by omega) (by omega), First_fst ht (by omega) (by omega) hc0 hc1]
    simp only [Option.bind_some]
    unfold hov
    rw [if_neg h0]
    rfl

theorem hov_up {o : Int} {l : TrL} (ht : TOk o l) (hd : Dif o l) {L : LayerT} (h : LR L) {k : Int} (hk : 0 ≤ k) (hk3 : L.2.2.2.1 ≠ 0 → (k + 1) * stepD L ≤ 50000) : hov o l L k < hov o l L (k + 1) := by
  have hs := h.step
  have hd0 := h.d0; have hd1 := h.d1; have hc0 := h.c0; have hc1 := h.c1; have he0 := h.e0; have he1 := h.e1
  unfold hov
  by_cases h0 : L.2.2.2.1 = 0
  · rw [if_pos h0, if_pos h0, Int.mul_add]
    omega
  · have hk3 := hk3 h0
    rw [if_neg h0, if_neg h0]
    have hm0 : 0 ≤ k * stepD L := Int.mul_nonneg hk (by omega)
    have hmul : (k + 1) * stepD L = k * stepD L + stepD L := by rw [Int.add_mul, Int.one_mul]
    rw [hmul] at hk3
    obtain ⟨j, f⟩ := fstI_ok ht (s := sLoc L k) (by unfold sLoc; omega)
    obtain ⟨j', f'⟩ := fstI_ok ht (s := sLoc L (k + 1)) (by unfold sLoc; rw [hmul]; omega)
    exact Fst.up ht hd (by unfold sLoc; omega) (by unfold sLoc; rw [hmul]; omega) f f'

/-- Where handovers of days lie. -/
theorem hov_around {o : Int} {l : TrL} (ht : TOk o l) {L : LayerT} (h : LR L) (h0 : L.2.2.2.1 ≠ 0) {k : Int} (hk : 0 ≤ k) (hk3 : k * stepD L ≤ 50000) : sLoc L k - 64800 ≤ hov o l L k ∧ hov o l L k ≤ sLoc L k + 64800 := by
  have hs := h.step
  have hd0 := h.d0; have hd1 := h.d1; have hc0 := h.c0; have hc1 := h.c1
  have hm0 : 0 ≤ k * stepD L := Int.mul_nonneg hk (by omega)
  unfold hov
  rw [if_neg h0]
  obtain ⟨j, f⟩ := fstI_ok ht (s := sLoc L k) (by unfold sLoc; omega)
  exact f.around ht (by unfold sLoc; omega)

theorem shift_l0 {o : Int} {l : TrL} (ht : TOk o l) {L : LayerT} (h : LR L) (h0 : L.2.2.2.1 ≠ 0) {t : Int} (hfirst : hov o l L 0 ≤ t) : ∀ n : Nat, (n : Int) * stepD L ≤ 50000 →
    ∃ k : Int, recur_ShiftOf_l0 t (n : Int) o l L.1 L.2.1 L.2.2.1.1 L.2.2.1.2 L.2.2.2.1 L.2.2.2.2.1 L.2.2.2.2.2.1 L.2.2.2.2.2.2.1 L.2.2.2.2.2.2.2.1 L.2.2.2.2.2.2.2.2 =
      some (t, k, o, l, L.1, L.2.1, L.2.2.1.1, L.2.2.1.2, L.2.2.2.1, L.2.2.2.2.1, L.2.2.2.2.2.1, L.2.2.2.2.2.2.1, L.2.2.2.2.2.2.2.1, L.2.2.2.2.2.2.2.2) ∧ 0 ≤ k ∧ k * stepD L ≤ 50000 ∧ hov o l L k ≤ t
  | 0, hn => by
    rw [recur_ShiftOf_l0_eq]
    simp only [recur_ShiftOf_l0_step]
    rw [dec_false (by omega), cond_false, lpK_inr]
    exact ⟨_, rfl, by omega, hn, hfirst⟩
  | n + 1, hn => by
    have hs := h.step
    have hmul : ((n + 1 : Nat) : Int) * stepD L = (n : Int) * stepD L + stepD L := by rw [show ((n + 1 : Nat) : Int) = (n : Int) + 1 by omega, Int.add_mul, Int.one_mul]
    have hb := mulD (a := ((n + 1 : Nat) : Int)) (by omega) hs.1 hn
    obtain ⟨k, e, k0, k1, k2⟩ := shift_l0 ht h h0 hfirst n (by omega)
    have hH := HandoverOf_ok ht h (k := ((n + 1 : Nat) : Int)) (by omega) (fun h' => absurd h' h0) (fun _ => hn)
    rw [recur_ShiftOf_l0_eq]
    simp only [recur_ShiftOf_l0_step]
    rw [dec_true (by omega), cond_true, show recur_HandoverOf (o, l) (L.1, L.2.1, (L.2.2.1.1, L.2.2.1.2), L.2.2.2.1, L.2.2.2.2.1, L.2.2.2.2.2.1, L.2.2.2.2.2.2.1, L.2.2.2.2.2.2.2.1, L.2.2.2.2.2.2.2.2) ((n + 1 : Nat) : Int) = _ from hH]
    simp only [Option.bind_some, cond_true]
    rw [w64_in (x := ((n + 1 : Nat) : Int) - 1) (by omega) (by omega), show ((n + 1 : Nat) : Int) - 1 = (n : Int) by omega]
    by_cases hc : hov o l L ((n + 1 : Nat) : Int) ≤ t
    · rw [dec_true hc, cond_true, lpK_inr]
      exact ⟨_, rfl, by omega, hn, hc⟩
    · rw [dec_false hc, cond_false, lpK_inl]
      exact ⟨k, e, k0, k1, k2⟩

theorem shift_l2 {o : Int} {l : TrL} (ht : TOk o l) (hd : Dif o l) {L : LayerT} (h : LR L) (h0 : L.2.2.2.1 ≠ 0) {t : Int} (htt : t ≤ 3000000000) : ∀ (n : Nat) (k : Int), 0 ≤ k → k * stepD L ≤ 50000 → hov o l L k ≤ t → t - hov o l L k < n →
    ∃ K : Int, recur_ShiftOf_l2 t k o l L.1 L.2.1 L.2.2.1.1 L.2.2.1.2 L.2.2.2.1 L.2.2.2.2.1 L.2.2.2.2.2.1 L.2.2.2.2.2.2.1 L.2.2.2.2.2.2.2.1 L.2.2.2.2.2.2.2.2 = some K ∧ 0 ≤ K ∧ (K + 1) * stepD L ≤ 40000 ∧ hov o l L K ≤ t ∧ t < hov o l L (K + 1)
  | 0, k, _, _, h2, h3 => by omega
  | n + 1, k, hk, hkb, h2, h3 => by
    have hs := h.step
    have hd0 := h.d0; have hc0 := h.c0
    have hmul : (k + 1) * stepD L = k * stepD L + stepD L := by rw [Int.add_mul, Int.one_mul]
    have ha := hov_around ht h h0 hk hkb
    have hsl : sLoc L k = (L.2.2.1.1 + k * stepD L) * 86400 + L.2.2.1.2 := rfl
    have hb : (k + 1) * stepD L ≤ 40000 := by omega
    have hkk := mulD (a := k + 1) (by omega) hs.1 hb
    have hup := hov_up ht hd h hk (fun _ => by omega)
    have hH := HandoverOf_ok ht h (k := k + 1) (by omega) (fun h' => absurd h' h0) (fun _ => by omega)
    rw [recur_ShiftOf_l2_eq]
    simp only [recur_ShiftOf_l2_step]
    rw [w64_in (x := k + 1) (by omega) (by omega), show recur_HandoverOf (o, l) (L.1, L.2.1, (L.2.2.1.1, L.2.2.1.2), L.2.2.2.1, L.2.2.2.2.1, L.2.2.2.2.2.1, L.2.2.2.2.2.2.1, L.2.2.2.2.2.2.2.1, L.2.2.2.2.2.2.2.2) (k + 1) = _ from hH]
    simp only [Option.bind_some, Bool.not_true, cond_false]
    by_cases hc : hov o l L (k + 1) > t
    · rw [dec_true hc, cond_true, lpK_inr]
      exact ⟨_, rfl, hk, hb, h2, hc⟩
    · rw [dec_false hc, cond_false, lpK_inl]
      exact shift_l2 ht hd h h0 htt n (k + 1) (by omega) (by omega) (by omega) (by omega)

theorem ShiftOf_lo {o : Int} {l : TrL} (ht : TOk o l) {L : LayerT} (h : LR L) {t : Int} (hlt : t < hov o l L 0) : recur_ShiftOf (o, l) L t = some (-1) := by
  have hH := HandoverOf_ok ht h (k := 0) (by omega) (fun _ => by omega) (fun _ => by omega)
  simp only [recur_ShiftOf, show recur_HandoverOf (o, l) (L.1, L.2.1, (L.2.2.1.1, L.2.2.1.2), L.2.2.2.1, L.2.2.2.2.1, L.2.2.2.2.2.1, L.2.2.2.2.2.2.1, L.2.2.2.2.2.2.2.1, L.2.2.2.2.2.2.2.2) 0 = _ from hH, Option.bind_some, Bool.not_true, cond_false]
  rw [dec_true (show hov o l L 0 > t from hlt), cond_true]

theorem ShiftOf_ok {o : Int} {l : TrL} (ht : TOk o l) (hd : Dif o l) {L : LayerT} (h : LR L) {t : Int} (h0t : 0 ≤ t) (htt : t ≤ 3000000000) (hge : hov o l L 0 ≤ t) :
    ∃ K : Int, recur_ShiftOf (o, l) L t = some K ∧ 0 ≤ K ∧ K ≤ 1000000 ∧ (L.2.2.2.1 ≠ 0 → (K + 1) * stepD L ≤ 40000) ∧ hov o l L K ≤ t ∧ t < hov o l L (K + 1) := by
  have hs := h.step
  have hd0 := h.d0; have hd1 := h.d1; have hc0 := h.c0; have hc1 := h.c1; have he0 := h.e0; have he1 := h.e1
  have hH := HandoverOf_ok ht h (k := 0) (by omega) (fun _ => by omega) (fun _ => by omega)
  have hstep : recur_step (L.1, L.2.1, (L.2.2.1.1, L.2.2.1.2), L.2.2.2.1, L.2.2.2.2.1, L.2.2.2.2.2.1, L.2.2.2.2.2.2.1, L.2.2.2.2.2.2.2.1, L.2.2.2.2.2.2.2.2) = _ := step_ok h
  simp only [recur_ShiftOf, show recur_HandoverOf (o, l) (L.1, L.2.1, (L.2.2.1.1, L.2.2.1.2), L.2.2.2.1, L.2.2.2.2.1, L.2.2.2.2.2.1, L.2.2.2.2.2.2.1, L.2.2.2.2.2.2.2.1, L.2.2.2.2.2.2.2.2) 0 = _ from hH, hstep, Option.bind_some, Bool.not_true, cond_false]
  rw [dec_false (show ¬ hov o l L 0 > t by omega), cond_false]
  by_cases h0 : L.2.2.2.1 = 0
  · obtain ⟨j, f⟩ := fstI_ok ht (s := sLoc L 0) (by unfold sLoc; omega)
    have ha := f.around ht (by unfold sLoc; omega)
    have hs0 : sLoc L 0 = (L.2.2.1.1 + 0 * stepD L) * 86400 + L.2.2.1.2 := rfl
    have hh : hov o l L 0 = fstI o l (sLoc L 0) := by unfold hov; rw [if_pos h0]; omega
    rw [beq_t h0, cond_true, w64_in (x := t - hov o l L 0) (by omega) (by omega), w64_in (x := 3600 * L.2.2.2.2.1) (by omega) (by omega), beq_f (show ¬ 3600 * L.2.2.2.2.1 = 0 by omega)]
    simp only [Bool.not_false, cond_true]
    have q0 : 0 ≤ (t - hov o l L 0) / (3600 * L.2.2.2.2.1) := Int.ediv_nonneg (by omega) (by omega)
    have q1 : 3600 * L.2.2.2.2.1 * ((t - hov o l L 0) / (3600 * L.2.2.2.2.1)) ≤ t - hov o l L 0 := Int.mul_ediv_self_le (by omega)
    have q2 : t - hov o l L 0 < 3600 * L.2.2.2.2.1 * ((t - hov o l L 0) / (3600 * L.2.2.2.2.1)) + 3600 * L.2.2.2.2.1 := Int.lt_mul_ediv_self_add (by omega)
    have q3 : (t - hov o l L 0) / (3600 * L.2.2.2.2.1) ≤ 1000000 := by
      have : (t - hov o l L 0) / (3600 * L.2.2.2.2.1) ≤ (t - hov o l L 0) / 3600 := by
        rw [← Int.ediv_ediv_of_nonneg (by omega)]
        exact Int.ediv_le_self _ (by omega)
      omega
    rw [Int.tdiv_eq_ediv_of_nonneg (by omega)]
    generalize (t - hov o l L 0) / (3600 * L.2.2.2.2.1) = K at *
    rw [w64_in (by omega) (by omega)]
    refine ⟨K, rfl, q0, q3, fun h' => absurd h0 h', ?_, ?_⟩
    · rw [hh] at q1
      unfold hov; rw [if_pos h0]; omega
    · rw [hh] at q2
      unfold hov; rw [if_pos h0, Int.mul_add]; omega
  · obtain ⟨j, hj, j1, j2⟩ := ex_piece ht (t := t) (by omega) (by omega)
    have o0 := ht.of0 j hj; have o1 := ht.of1 j hj
    rw [beq_f h0, cond_false, Local_ok ht hj j1 j2]
    simp only [Option.bind_some]
    generalize hld : (t + tof o l j) / 86400 = ld
    rw [beq_f (show ¬ stepD L = 0 by omega), w64_in (x := ld - L.2.2.1.1) (by omega) (by omega)]
    simp only [Bool.not_false, cond_true]
    obtain ⟨n, hn, hn2⟩ : ∃ n : Nat, (if w64 (Int.tdiv (ld - L.2.2.1.1) (stepD L)) > 0 then w64 (Int.tdiv (ld - L.2.2.1.1) (stepD L)) else 0) = (n : Int) ∧ (n : Int) * stepD L ≤ 50000 := by
      by_cases hneg : 0 ≤ ld - L.2.2.1.1
      · rw [Int.tdiv_eq_ediv_of_nonneg hneg]
        have q0 : 0 ≤ (ld - L.2.2.1.1) / stepD L := Int.ediv_nonneg hneg (by omega)
        have q1 : (ld - L.2.2.1.1) / stepD L ≤ ld - L.2.2.1.1 := Int.ediv_le_self _ hneg
        have q2 : (ld - L.2.2.1.1) / stepD L * stepD L ≤ ld - L.2.2.1.1 := Int.ediv_mul_le _ (by omega)
        rw [w64_in (by omega) (by omega)]
        refine ⟨((ld - L.2.2.1.1) / stepD L).toNat, ?_, ?_⟩
        · split <;> omega
        · rw [show ((((ld - L.2.2.1.1) / stepD L).toNat : Nat) : Int) = (ld - L.2.2.1.1) / stepD L by omega]; omega
      · have e : Int.tdiv (ld - L.2.2.1.1) (stepD L) = -((-(ld - L.2.2.1.1)) / stepD L) := by
          rw [← Int.tdiv_eq_ediv_of_nonneg (by omega), Int.neg_tdiv, Int.neg_neg]
        have q0 : 0 ≤ (-(ld - L.2.2.1.1)) / stepD L := Int.ediv_nonneg (by omega) (by omega)
        have q1 : (-(ld - L.2.2.1.1)) / stepD L ≤ -(ld - L.2.2.1.1) := Int.ediv_le_self _ (by omega)
        rw [e, w64_in (by omega) (by omega), if_neg (by omega)]
        exact ⟨0, rfl, by omega⟩
    rw [hn]
    obtain ⟨k, e, k0, k1, k2⟩ := shift_l0 ht h h0 hge n hn2
    obtain ⟨K, e2, K0, K1, K2, K3⟩ := shift_l2 ht hd h h0 htt (t - hov o l L k + 1).toNat k k0 k1 k2 (by omega)
    simp only [e, Option.bind_some, e2]
    have := mulD (a := K + 1) (by omega) hs.1 K1
    exact ⟨K, rfl, K0, by omega, fun _ => K1, K2, K3⟩
end Go.Proofs.Pw

/- Chapter 10: handovers and shifts of layers that the dice make. -/
open Go Go.Lft
namespace Go.Proofs.Pw

theorem hov_le {o : Int} {l : TrL} (ht : TOk o l) (hd : Dif o l) {L : LayerT} (h : LR L) : ∀ (n : Nat) (a : Int), 0 ≤ a → (L.2.2.2.1 ≠ 0 → (a + n) * stepD L ≤ 50000) → hov o l L a ≤ hov o l L (a + n)
  | 0, a, _, _ => by rw [show a + ((0 : Nat) : Int) = a by omega]; omega
  | n + 1, a, ha, hb => by
    have hs := h.step
    have hmul : (a + ((n + 1 : Nat) : Int)) * stepD L = (a + (n : Int)) * stepD L + stepD L := by rw [show a + ((n + 1 : Nat) : Int) = a + (n : Int) + 1 by omega, Int.add_mul, Int.one_mul]
    have ih := hov_le ht hd h n a ha (fun h0 => by have := hb h0; omega)
    have hu := hov_up ht hd h (k := a + (n : Int)) (by omega) (fun h0 => by have := hb h0; rw [show a + (n : Int) + 1 = a + ((n + 1 : Nat) : Int) by omega]; exact this)
    rw [show a + ((n + 1 : Nat) : Int) = a + (n : Int) + 1 by omega]
    omega

theorem hov_uniq {o : Int} {l : TrL} (ht : TOk o l) (hd : Dif o l) {L : LayerT} (h : LR L) {a b t : Int} (ha : 0 ≤ a) (hb : 0 ≤ b) (ha1 : L.2.2.2.1 ≠ 0 → (a + 1) * stepD L ≤ 50000) (hb1 : L.2.2.2.1 ≠ 0 → (b + 1) * stepD L ≤ 50000)
    (a1 : hov o l L a ≤ t) (a2 : t < hov o l L (a + 1)) (b1 : hov o l L b ≤ t) (b2 : t < hov o l L (b + 1)) : a = b := by
  have hs := h.step
  have one : ∀ {x y : Int}, 0 ≤ x → x < y → (L.2.2.2.1 ≠ 0 → (y + 1) * stepD L ≤ 50000) → hov o l L (x + 1) ≤ hov o l L y := fun {x y} hx hxy hy => by
    have := hov_le ht hd h (y - (x + 1)).toNat (x + 1) (by omega) (fun h0 => by
      have := hy h0
      rw [show x + 1 + (((y - (x + 1)).toNat : Nat) : Int) = y by omega]
      rw [Int.add_mul, Int.one_mul] at this; omega)
    rw [show x + 1 + (((y - (x + 1)).toNat : Nat) : Int) = y by omega] at this
    exact this
  rcases Int.lt_trichotomy a b with hlt | heq | hgt
  · have := one ha hlt hb1; omega
  · exact heq
  · have := one hb hgt ha1; omega

theorem LOk.step {L : LayerT} (h : LOk L) : L.2.2.2.1 ≠ 0 → stepD L ≤ 14 := fun h0 => by
  have := h.e2 h0
  unfold stepD; split <;> omega
theorem LOk.small {L : LayerT} (h : LOk L) {k : Int} (_hk : 0 ≤ k) (hk2 : k ≤ 2000) : L.2.2.2.1 ≠ 0 → k * stepD L ≤ 28000 := fun h0 => by
  have := h.step h0
  have hs := h.lr.step
  have : k * stepD L ≤ 2000 * 14 := Int.mul_le_mul hk2 this (by omega) (by omega)
  omega

theorem hov_range {o : Int} {l : TrL} (ht : TOk o l) {L : LayerT} (h : LOk L) {k : Int} (hk : 0 ≤ k) (hk2 : k ≤ 500) : 1700000000 ≤ hov o l L k ∧ hov o l L k ≤ 2500000000 := by
  have hr := h.lr
  have hd0 := h.d0; have hd1 := h.d1; have hc0 := h.c0; have hc1 := h.c1; have he0 := h.e0; have he1 := h.e1
  by_cases h0 : L.2.2.2.1 = 0
  · obtain ⟨j, f⟩ := fstI_ok ht (s := sLoc L 0) (by unfold sLoc; omega)
    have ha := f.around ht (by unfold sLoc; omega)
    have hs0 : sLoc L 0 = (L.2.2.1.1 + 0 * stepD L) * 86400 + L.2.2.1.2 := rfl
    have hm0 : 0 ≤ 3600 * L.2.2.2.2.1 * k := Int.mul_nonneg (by omega) hk
    have hm1 : 3600 * L.2.2.2.2.1 * k ≤ 3600 * 49 * 500 := Int.mul_le_mul (by omega) hk2 hk (by omega)
    unfold hov
    rw [if_pos h0]
    omega
  · have hs := h.step h0
    have hs1 := h.lr.step
    have hm0 : 0 ≤ k * stepD L := Int.mul_nonneg hk (by omega)
    have hm1 : k * stepD L ≤ 500 * 14 := Int.mul_le_mul hk2 hs (by omega) (by omega)
    have ha := hov_around ht hr h0 hk (by omega)
    have hs0 : sLoc L k = (L.2.2.1.1 + k * stepD L) * 86400 + L.2.2.1.2 := rfl
    omega

theorem Handover_ok {z : ZoneT} {l : TrL} (hz : ZTab z l) {L : LayerT} (h : LOk L) {k : Int} (hk : 0 ≤ k) (hk2 : k ≤ 2000) : recur_Handover z L k = some (hov z.2.1 l L k, 0) := by
  have hH := HandoverOf_ok hz.2 h.lr hk (fun _ => by omega) (fun h0 => by have := h.small hk hk2 h0; omega)
  simp only [recur_Handover, show recur_open (z.1, z.2.1, z.2.2) (L.1, L.2.1, (L.2.2.1.1, L.2.2.1.2), L.2.2.2.1, L.2.2.2.2.1, L.2.2.2.2.2.1, L.2.2.2.2.2.2.1, L.2.2.2.2.2.2.2.1, L.2.2.2.2.2.2.2.2) = _ from ropen_ok hz h.lr, Option.bind_some, Bool.not_true, cond_false]
  rw [dec_false (show ¬ k < 0 by omega), cond_false]
  simp only [show recur_HandoverOf (z.2.1, l) (L.1, L.2.1, (L.2.2.1.1, L.2.2.1.2), L.2.2.2.1, L.2.2.2.2.1, L.2.2.2.2.2.1, L.2.2.2.2.2.2.1, L.2.2.2.2.2.2.2.1, L.2.2.2.2.2.2.2.2) k = _ from hH, Option.bind_some, Bool.not_true, cond_false]

theorem Shift_of {z : ZoneT} {l : TrL} (hz : ZTab z l) {L : LayerT} (h : LOk L) {t K : Int} (h0 : 0 ≤ t) (h1 : t ≤ 3000000000) (hK : recur_ShiftOf (z.2.1, l) L t = some K) : recur_Shift z L t = some (K, 0) := by
  simp only [recur_Shift, show recur_open (z.1, z.2.1, z.2.2) (L.1, L.2.1, (L.2.2.1.1, L.2.2.1.2), L.2.2.2.1, L.2.2.2.2.1, L.2.2.2.2.2.1, L.2.2.2.2.2.2.1, L.2.2.2.2.2.2.2.1, L.2.2.2.2.2.2.2.2) = _ from ropen_ok hz h.lr, Option.bind_some, Bool.not_true, cond_false, recur_in_t h0 (show t ≤ 8589934592 by omega)]
  simp only [show recur_ShiftOf (z.2.1, l) (L.1, L.2.1, (L.2.2.1.1, L.2.2.1.2), L.2.2.2.1, L.2.2.2.2.1, L.2.2.2.2.2.1, L.2.2.2.2.2.2.1, L.2.2.2.2.2.2.2.1, L.2.2.2.2.2.2.2.2) t = _ from hK, Option.bind_some]

/-- The shift of an instant between two handovers. -/
theorem Shift_at {z : ZoneT} {l : TrL} (hz : ZTab z l) (hd : Dif z.2.1 l) {L : LayerT} (h : LOk L) {t i : Int} (hi : 0 ≤ i) (hi2 : i ≤ 1000) (h0 : 0 ≤ t) (h1 : t ≤ 3000000000) (a : hov z.2.1 l L i ≤ t) (b : t < hov z.2.1 l L (i + 1)) : recur_Shift z L t = some (i, 0) := by
  have hr := h.lr
  have hle := hov_le hz.2 hd hr i.toNat 0 (by omega) (fun hu => by
    have := h.small hi (by omega) hu
    rw [show (0 : Int) + ((i.toNat : Nat) : Int) = i by omega]; omega)
  rw [show (0 : Int) + ((i.toNat : Nat) : Int) = i by omega] at hle
  obtain ⟨K, e, k0, k1, k2, k3, k4⟩ := ShiftOf_ok hz.2 hd hr h0 h1 (by omega)
  have : K = i := hov_uniq hz.2 hd hr k0 hi (fun hu => by have := k2 hu; omega) (fun hu => by have := h.small (k := i + 1) (by omega) (by omega) hu; omega) k3 k4 a b
  subst this
  exact Shift_of hz h h0 h1 e

theorem Turn_at {z : ZoneT} {L : LayerT} (h : LOk L) {t i : Int} (hi : 0 ≤ i) (hs : recur_Shift z L t = some (i, 0)) : recur_Turn z L t = some (Int.tmod i (L.2.2.2.2.2.1.length : Int), 0) := by
  have hm := h.m0
  simp only [recur_Turn, show recur_Shift (z.1, z.2.1, z.2.2) (L.1, L.2.1, (L.2.2.1.1, L.2.2.1.2), L.2.2.2.1, L.2.2.2.2.1, L.2.2.2.2.2.1, L.2.2.2.2.2.2.1, L.2.2.2.2.2.2.2.1, L.2.2.2.2.2.2.2.2) t = _ from hs, Option.bind_some, bne_self_eq_false, cond_false, show Int.ofNat (List.length L.2.2.2.2.2.1) = (L.2.2.2.2.2.1.length : Int) from rfl]
  rw [dec_false (show ¬ i < 0 by omega), cond_false, beq_f (show ¬ (L.2.2.2.2.2.1.length : Int) = 0 by omega)]
  rfl

theorem ZOk.tab {z : ZoneT} (h : ZOk z) : ∃ l, ZTab z l ∧ Dif z.2.1 l := ⟨_, MZ.tab (o := z.2.1) (rs := z.2.2) h z.1, dif_out _ _ _ (MZ.good h)⟩
end Go.Proofs.Pw
