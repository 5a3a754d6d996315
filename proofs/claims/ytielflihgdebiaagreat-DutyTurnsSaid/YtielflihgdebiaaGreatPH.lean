/- DutyTurns. -/
import Derived.Test.YtielflihgdebiaaGreatPG
import Derived.Test.YtielflihgdebiaaGreatPC
import Derived.Test.YtielflihgdebiaaGreatLD
open Go Go.Lft
namespace Go.Proofs.Pw

theorem r10Hand_ok {z : ZoneT} {l : TrL} (h4 : Z4 z l) {L : LayerT} (h : Rt L) {k t : Int} (hk : 0 ≤ k) (hv : hO z.2.1 l L k = some t) : r10_Handover z L k = some (t, 0) := by
  have hkk := hO_at h4.2 h hk hv
  obtain ⟨v, ev, hv'⟩ := r10H h4 h (k := k) hk (by omega)
  have := hv' t hv
  subst this
  have e2 : r10_Check (z.1, (z.2.1, z.2.2)) (L.1, L.2.1, (L.2.2.1.1, L.2.2.1.2), L.2.2.2.1, L.2.2.2.2.1, L.2.2.2.2.2.1, L.2.2.2.2.2.2.1, L.2.2.2.2.2.2.2.1, L.2.2.2.2.2.2.2.2) = _ := check10_any h4 L
  simp only [r10_Handover, e2, Option.bind_some]
  rw [if_pos h, dec_false (show ¬ k < 0 by omega), dec_false (show ¬ k > 2386092 by omega)]
  simp only [bne_self_eq_false, cond_false]
  rw [show r10_handover (z.1, (z.2.1, z.2.2)) (L.1, L.2.1, (L.2.2.1.1, L.2.2.1.2), L.2.2.2.1, L.2.2.2.2.1, L.2.2.2.2.2.1, L.2.2.2.2.2.2.1, L.2.2.2.2.2.2.2.1, L.2.2.2.2.2.2.2.2) k = _ from ev, hv]
  rfl

theorem LOk.small2 {L : LayerT} (h : LOk L) {k : Int} (hk : 0 ≤ k) (hk2 : k ≤ 20) : 0 ≤ k * stepD L ∧ k * stepD L ≤ 2000 := by
  have h1 := h.lr.step
  have he0 := h.e0; have he1 := h.e1
  refine ⟨Int.mul_nonneg hk (by omega), ?_⟩
  by_cases h0 : L.2.2.2.1 = 0
  · have hs : stepD L ≤ 49 := by unfold stepD; rw [if_neg (by omega)]; omega
    have : k * stepD L ≤ 20 * 49 := Int.mul_le_mul hk2 hs (by omega) (by omega)
    omega
  · have he2 := h.e2 h0
    have hs : stepD L ≤ 14 := by unfold stepD; split <;> omega
    have : k * stepD L ≤ 20 * 14 := Int.mul_le_mul hk2 hs (by omega) (by omega)
    omega

theorem hO_hov {o : Int} {l : TrL} (h : TOk o l) {L : LayerT} (hL : LOk L) {k : Int} (hk : 0 ≤ k) (hk2 : k ≤ 20) : hO o l L k = some (hov o l L k) ∧ 1700000000 ≤ hov o l L k ∧ hov o l L k ≤ 2500000000 := by
  have hd0 := hL.d0; have hd1 := hL.d1; have hc0 := hL.c0; have hc1 := hL.c1; have he0 := hL.e0; have he1 := hL.e1
  have hsm := hL.small2 hk hk2
  by_cases h0 : L.2.2.2.1 = 0
  · have hs0 : sLoc L 0 = (L.2.2.1.1 + 0 * stepD L) * 86400 + L.2.2.1.2 := rfl
    obtain ⟨j, f⟩ := fstI_ok h (s := sLoc L 0) (by omega)
    have ha := f.around h (by omega)
    have hm0 : 0 ≤ 3600 * L.2.2.2.2.1 * k := Int.mul_nonneg (by omega) hk
    have hm1 : 3600 * L.2.2.2.2.1 * k ≤ 3600 * 49 * 20 := Int.mul_le_mul (by omega) hk2 hk (by omega)
    unfold hO hov
    rw [if_pos h0, if_pos h0, fO_t f]
    simp only [Option.bind_some]
    rw [if_pos (by omega)]
    exact ⟨rfl, by omega, by omega⟩
  · have hs0 : sLoc L k = (L.2.2.1.1 + k * stepD L) * 86400 + L.2.2.1.2 := rfl
    obtain ⟨j, f⟩ := fstI_ok h (s := sLoc L k) (by omega)
    have ha := f.around h (by omega)
    unfold hO hov
    rw [if_neg h0, if_neg h0, fO_t f]
    exact ⟨rfl, by omega, by omega⟩

theorem LOk.up {o : Int} {l : TrL} (h : TOk o l) (hd : Dif o l) {L : LayerT} (hL : LOk L) {k : Int} (hk : 0 ≤ k) (hk2 : k ≤ 19) : hov o l L k < hov o l L (k + 1) :=
  hov_up h hd hL.lr hk (fun _ => by have := (hL.small2 (k := k + 1) (by omega) (by omega)).2; omega)

theorem sh_between {o : Int} {l : TrL} (h : TOk o l) {L : LayerT} (hL : LOk L) {k t : Int} (hk : 0 ≤ k) (hk2 : k ≤ 19) (h1 : hov o l L k ≤ t) (h2 : t < hov o l L (k + 1)) : ShO o l L t k := by
  have e1 := (hO_hov h hL hk (by omega)).1
  have e2 := (hO_hov h hL (k := k + 1) (by omega) (by omega)).1
  refine .inr ⟨hk, ⟨_, e1, h1⟩, ?_⟩
  rintro ⟨v, hv, hvt⟩
  rw [e2] at hv
  simp at hv; omega

theorem sh_before {o : Int} {l : TrL} (h : TOk o l) {L : LayerT} (hL : LOk L) {t : Int} (h1 : t < hov o l L 0) : ShO o l L t (-1) := by
  have e1 := (hO_hov h hL (k := 0) (by omega) (by omega)).1
  refine .inl ⟨rfl, ?_⟩
  rintro ⟨v, hv, hvt⟩
  rw [e1] at hv
  simp at hv; omega

section
variable {zs : List ZoneT} {ps : List PersonT} {cs : List CalT} {ss : List SchedT} (hs : SOk2 zs ps cs) (g0 : ss.length ≤ 12) (g1 : NmL (ss.map (·.1))) (g2 : ∀ s ∈ ss, SCk zs.length ps.length cs.length s)
include hs g0 g1 g2

theorem D_ok {L : LayerT} (hL : LCk zs.length ps.length cs.length L) (hn : lexer_Name L.1 = some true) (hRt : Rt L) {t : Int} (h0 : 0 ≤ t) (h1 : t ≤ 8589934592) {z : ZoneT} (hzz : zs.getD L.2.1.toNat (ByteArray.empty, ((0 : Int), ([] : List Rule))) = z)
    {s : Int} {d : Int × Int} (hd : zone_Table_Local (tb z) t = some d) (hsec : week_SecondOf d = some s) {K : Int} (hK : ShO z.2.1 (tb z).2 L t K) (hz : ZOk z) (b : Bool)
    (hcal : L.2.2.2.2.2.2.2.2 = 0 → b = true) (hcal2 : L.2.2.2.2.2.2.2.2 ≠ 0 → ∃ x : CalT, cs.getD L.2.2.2.2.2.2.2.1.toNat (ByteArray.empty, ((0 : Int), ([] : List Int))) = x ∧ CCk zs.length x ∧ ∃ d', zone_Table_Local (tb (zs.getD x.2.1.toNat (ByteArray.empty, ((0 : Int), ([] : List Rule))))) t = some d' ∧ b = (decide (d'.1 ∈ x.2.2) == (L.2.2.2.2.2.2.2.2 == (2 : Int)))) :
    duty_On (zs, (ps, (cs, ss))) L t = some (cond (decide (0 ≤ K)) (cond (okW L.2.2.2.2.2.2.1 s) b false) false) ∧
    duty_Person (zs, (ps, (cs, ss))) L t = some (cond (cond (decide (0 ≤ K)) (cond (okW L.2.2.2.2.2.2.1 s) b false) false) (whoL L K) (-1)) := by
  have hf := fits_ok hs g0 g1 g2 hL hn
  have hv := view_ok (ps := ps) (cs := cs) (ss := ss) hs.so.ok (by have := hs.so.z1; omega)
  obtain ⟨K', eK, hK'⟩ := recSh hz.tb.1.2 hRt h0 h1
  have := ShO.uniq hz.tb.1.2 hRt hK' hK
  subst this
  obtain ⟨r, er, hr⟩ := OnV_ok (ps := ps) (ss := ss) hs.so.ok hL hRt h0 h1 hzz hd hsec eK b hcal hcal2
  have hp := PersV_ok hL.m0 er hr (fun hb => by
    by_cases hk : 0 ≤ K'
    · exact hk
    · rw [dec_false hk] at hb; simp at hb)
  have hf' : duty_fits (zs, ps, cs, ss) (L.1, L.2.1, (L.2.2.1.1, L.2.2.1.2), L.2.2.2.1, L.2.2.2.2.1, L.2.2.2.2.2.1, L.2.2.2.2.2.2.1, L.2.2.2.2.2.2.2.1, L.2.2.2.2.2.2.2.2) = _ := hf
  constructor
  · simp only [duty_On, hf', Option.bind_some, Bool.not_true, cond_false, hv]
    rw [show duty_View_On ((zs, ps, cs, ss), zs.map tb) (L.1, L.2.1, (L.2.2.1.1, L.2.2.1.2), L.2.2.2.1, L.2.2.2.2.1, L.2.2.2.2.2.1, L.2.2.2.2.2.2.1, L.2.2.2.2.2.2.2.1, L.2.2.2.2.2.2.2.2) t = _ from er]
    rfl
  · simp only [duty_Person, hf', Option.bind_some, Bool.not_true, cond_false, hv]
    rw [show duty_View_Person ((zs, ps, cs, ss), zs.map tb) (L.1, L.2.1, (L.2.2.1.1, L.2.2.1.2), L.2.2.2.1, L.2.2.2.2.1, L.2.2.2.2.2.1, L.2.2.2.2.2.2.1, L.2.2.2.2.2.2.2.1, L.2.2.2.2.2.2.2.2) t = _ from hp]
    rfl

theorem bare_ok {L : LayerT} (hL : LCk zs.length ps.length cs.length L) (hn : lexer_Name L.1 = some true) (hRt : Rt L) (hw : L.2.2.2.2.2.2.1 = []) (hm : L.2.2.2.2.2.2.2.2 = 0) {t : Int} (h0 : 0 ≤ t) (h1 : t ≤ 8589934592)
    {z : ZoneT} (hzz : zs.getD L.2.1.toNat (ByteArray.empty, ((0 : Int), ([] : List Rule))) = z) (hz : ZOk z) {K : Int} (hK : ShO z.2.1 (tb z).2 L t K) :
    duty_On (zs, (ps, (cs, ss))) L t = some (decide (0 ≤ K)) ∧ duty_Person (zs, (ps, (cs, ss))) L t = some (cond (decide (0 ≤ K)) (whoL L K) (-1)) := by
  obtain ⟨d, s, hd, hsec⟩ := sec_ok hz h0 h1
  have := D_ok hs g0 g1 g2 hL hn hRt h0 h1 hzz hd hsec hK hz true (fun _ => rfl) (fun h => absurd hm h)
  have e : cond (decide (0 ≤ K)) (cond (okW L.2.2.2.2.2.2.1 s) true false) false = decide (0 ≤ K) := by
    rw [hw]
    cases decide (0 ≤ K) <;> rfl
  rw [e] at this
  exact this

theorem dt_lp {L : LayerT} (hL : LCk zs.length ps.length cs.length L) (hLO : LOk L) (hn : lexer_Name L.1 = some true) (hRt : Rt L) (hw : L.2.2.2.2.2.2.1 = []) (hm : L.2.2.2.2.2.2.2.2 = 0) {z : ZoneT} (hzz : zs.getD L.2.1.toNat (ByteArray.empty, ((0 : Int), ([] : List Rule))) = z) (hz : ZOk z) : ∀ (n : Nat) (k : Int), k + n = 7 → 0 ≤ k →
    law11_DutyTurns_l0 k zs ps cs ss L.1 L.2.1 L.2.2.1.1 L.2.2.1.2 L.2.2.2.1 L.2.2.2.2.1 L.2.2.2.2.2.1 L.2.2.2.2.2.2.2.1 L.2.2.2.2.2.2.2.2 z.1 z.2.1 z.2.2 = some (.inr ())
  | 0, k, hk, hk0 => by
    rw [law11_DutyTurns_l0_eq]
    simp only [law11_DutyTurns_l0_step]
    rw [dec_false (by omega), cond_false, lpK_inr]
  | n + 1, k, hk, hk0 => by
    obtain ⟨ht, h4, hdf⟩ := hz.tb
    obtain ⟨a1, a2, a3⟩ := hO_hov ht.2 hLO (k := k) hk0 (by omega)
    obtain ⟨b1, b2, b3⟩ := hO_hov ht.2 hLO (k := k + 1) (by omega) (by omega)
    have hup := hLO.up ht.2 hdf (k := k) hk0 (by omega)
    have e1 := r10Hand_ok h4 hRt hk0 a1
    have e2 := r10Hand_ok h4 hRt (k := k + 1) (by omega) b1
    have p1 := (bare_ok hs g0 g1 g2 hL hn hRt hw hm (t := hov z.2.1 (tb z).2 L k) (by omega) (by omega) hzz hz (sh_between ht.2 hLO hk0 (by omega) (Int.le_refl _) hup)).2
    have p2 := (bare_ok hs g0 g1 g2 hL hn hRt hw hm (t := hov z.2.1 (tb z).2 L (k + 1) - 1) (by omega) (by omega) hzz hz (sh_between ht.2 hLO (k := k) hk0 (by omega) (by omega) (by omega))).2
    have hm0 := hL.m0
    have q1 : 0 ≤ Int.tmod k (L.2.2.2.2.2.1.length : Int) := Int.tmod_nonneg _ hk0
    have q2 : Int.tmod k (L.2.2.2.2.2.1.length : Int) < (L.2.2.2.2.2.1.length : Int) := Int.tmod_lt_of_pos _ (by omega)
    have ew : ∀ {X : Type} (f : WL → X), f [] = f L.2.2.2.2.2.2.1 := fun f => by rw [hw]
    rw [law11_DutyTurns_l0_eq]
    simp only [law11_DutyTurns_l0_step]
    rw [dec_true (show k < 7 by omega), cond_true, w64_in (x := k + 1) (by omega) (by omega)]
    rw [← hw]
    rw [show r10_Handover (z.1, (z.2.1, z.2.2)) (L.1, L.2.1, (L.2.2.1.1, L.2.2.1.2), L.2.2.2.1, L.2.2.2.2.1, L.2.2.2.2.2.1, L.2.2.2.2.2.2.1, L.2.2.2.2.2.2.2.1, L.2.2.2.2.2.2.2.2) k = _ from e1, show r10_Handover (z.1, (z.2.1, z.2.2)) (L.1, L.2.1, (L.2.2.1.1, L.2.2.1.2), L.2.2.2.1, L.2.2.2.2.1, L.2.2.2.2.2.1, L.2.2.2.2.2.2.1, L.2.2.2.2.2.2.2.1, L.2.2.2.2.2.2.2.2) (k + 1) = _ from e2]
    simp only [Option.bind_some, bne_self_eq_false, cond_false]
    rw [w64_in (x := hov z.2.1 (tb z).2 L (k + 1) - 1) (by omega) (by omega)]
    rw [show duty_Person (zs, ps, cs, ss) (L.1, L.2.1, (L.2.2.1.1, L.2.2.1.2), L.2.2.2.1, L.2.2.2.2.1, L.2.2.2.2.2.1, L.2.2.2.2.2.2.1, L.2.2.2.2.2.2.2.1, L.2.2.2.2.2.2.2.2) (hov z.2.1 (tb z).2 L k) = _ from p1]
    rw [show duty_Person (zs, ps, cs, ss) (L.1, L.2.1, (L.2.2.1.1, L.2.2.1.2), L.2.2.2.1, L.2.2.2.2.1, L.2.2.2.2.2.1, L.2.2.2.2.2.2.1, L.2.2.2.2.2.2.2.1, L.2.2.2.2.2.2.2.2) (hov z.2.1 (tb z).2 L (k + 1) - 1) = _ from p2]
    simp only [Option.bind_some, show Int.ofNat L.2.2.2.2.2.1.length = (L.2.2.2.2.2.1.length : Int) from rfl]
    rw [beq_f (show ¬ (L.2.2.2.2.2.1.length : Int) = 0 by omega), inR_t q1 q2, dec_true hk0]
    simp only [Bool.not_false, cond_true, whoL, bne_self_eq_false, cond_false, lpK_inl]
    exact dt_lp hL hLO hn hRt hw hm hzz hz n (k + 1) (by omega) (by omega)
end

theorem DutyTurns_true (t : List Int) (_h : Wf (.list (.int .i64)) t) : law11_DutyTurns t = some true := by
  simp only [law11_DutyTurns, made_Light, Option.bind_some, show Int.ofNat (List.length t) = (t.length : Int) from rfl]
  by_cases hl : (t.length : Int) ≤ 500
  · rw [dec_true hl]
    simp only [Bool.not_true, cond_false, made_Roll, Option.bind_some]
    obtain ⟨zs, ps, cs, ss, a1, e1, hs, g0, g1, g2, d1⟩ := Config1_ok (L := t) (a := 0) ⟨by omega, by omega, by omega⟩
    obtain ⟨L, a2, e2, hLO, hLC, hnm, d2⟩ := Layer2_ok (ss := ss) d1 hs.so (ByteArray.mk #[97])
    have hz := zget hs.so.ok hLC.z0 hLC.z1
    simp only [e1, e2, Option.bind_some]
    rw [inR_t hLC.z0 hLC.z1, cond_true]
    generalize hzz : zs.getD L.2.1.toNat (ByteArray.empty, ((0 : Int), ([] : List Rule))) = z at *
    have hd1 := hLO.d1
    have hLO' : LOk (L.1, L.2.1, L.2.2.1, L.2.2.2.1, L.2.2.2.2.1, L.2.2.2.2.2.1, [], 0, 0) := ⟨hLO.d0, hLO.d1, hLO.c0, hLO.c1, hLO.u0, hLO.u1, hLO.e0, hLO.e1, hLO.e2, hLO.m0, hLO.m1⟩
    have hLC' : LCk zs.length ps.length cs.length (L.1, L.2.1, L.2.2.1, L.2.2.2.1, L.2.2.2.2.1, L.2.2.2.2.2.1, [], 0, 0) :=
      ⟨hLC.z0, hLC.z1, hLC.d0, hLC.day, hLC.c0, hLC.c1, hLC.u0, hLC.u1, hLC.e0, hLC.e1, hLC.m0, hLC.m1, hLC.mem, show (0 : Int) ≤ 604800 by omega, Nat.zero_le _, Int.le_refl _, show (0 : Int) ≤ 2 by omega, fun h => absurd rfl h, fun _ => rfl⟩
    have hn : lexer_Name L.1 = some true := by rw [hnm]; exact nm_a
    have hRt : Rt (L.1, L.2.1, L.2.2.1, L.2.2.2.1, L.2.2.2.2.1, L.2.2.2.2.2.1, [], 0, 0) := hLC'.rt (by show L.2.2.1.1 ≤ 100000; omega)
    obtain ⟨ht, h4, hdf⟩ := hz.tb
    generalize hLL : ((L.1, L.2.1, L.2.2.1, L.2.2.2.1, L.2.2.2.2.1, L.2.2.2.2.2.1, [], 0, 0) : LayerT) = M at *
    obtain ⟨c1, c2, c3⟩ := hO_hov ht.2 hLO' (k := 0) (by omega) (by omega)
    have eh := r10Hand_ok h4 hRt (k := 0) (by omega) c1
    have hMz : M.2.1 = L.2.1 := by rw [← hLL]
    have hMn : lexer_Name M.1 = some true := by rw [← hLL]; exact hn
    have hMw : M.2.2.2.2.2.2.1 = [] := by rw [← hLL]
    have hMm : M.2.2.2.2.2.2.2.2 = 0 := by rw [← hLL]
    have hzz' : zs.getD M.2.1.toNat (ByteArray.empty, ((0 : Int), ([] : List Rule))) = z := by rw [hMz]; exact hzz
    obtain ⟨p1, p2⟩ := bare_ok hs (by omega) g1 g2 hLC' hMn hRt hMw hMm (t := hov z.2.1 (tb z).2 M 0 - 1) (by omega) (by omega) hzz' hz (sh_before ht.2 hLO' (by omega))
    have lp := dt_lp hs (by omega) g1 g2 hLC' hLO' hMn hRt hMw hMm hzz' hz 7 0 (by omega) (by omega)
    subst hLL
    rw [show r10_Handover (z.1, (z.2.1, z.2.2)) (L.1, L.2.1, (L.2.2.1.1, L.2.2.1.2), L.2.2.2.1, L.2.2.2.2.1, L.2.2.2.2.2.1, [], 0, 0) 0 = _ from eh]
    simp only [Option.bind_some, bne_self_eq_false, cond_false]
    rw [w64_in (x := hov z.2.1 (tb z).2 (L.1, L.2.1, L.2.2.1, L.2.2.2.1, L.2.2.2.2.1, L.2.2.2.2.2.1, [], 0, 0) 0 - 1) (by omega) (by omega)]
    rw [show duty_On (zs, ps, cs, ss) (L.1, L.2.1, (L.2.2.1.1, L.2.2.1.2), L.2.2.2.1, L.2.2.2.2.1, L.2.2.2.2.2.1, [], 0, 0) _ = _ from p1]
    rw [show duty_Person (zs, ps, cs, ss) (L.1, L.2.1, (L.2.2.1.1, L.2.2.1.2), L.2.2.2.1, L.2.2.2.2.1, L.2.2.2.2.2.1, [], 0, 0) _ = _ from p2]
    rw [dec_false (show ¬ (0 : Int) ≤ -1 by omega)]
    simp only [Option.bind_some, cond_false, bne_self_eq_false]
    rw [show law11_DutyTurns_l0 0 zs ps cs ss L.1 L.2.1 L.2.2.1.1 L.2.2.1.2 L.2.2.2.1 L.2.2.2.2.1 L.2.2.2.2.2.1 0 0 z.1 z.2.1 z.2.2 = _ from lp]
    simp only [Option.bind_some, sumC_inr, sane11]
  · rw [dec_false hl]
    simp only [Bool.not_false, cond_true, sane11, Option.bind_some]
end Go.Proofs.Pw
