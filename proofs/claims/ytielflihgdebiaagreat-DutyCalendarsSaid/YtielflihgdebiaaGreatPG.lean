/- Chapter 11: who is on duty in a layer. -/
import Derived.Test.YtielflihgdebiaaGreatPE
import Derived.Test.YtielflihgdebiaaGreatPF
import Derived.Test.YtielflihgdebiaaGreatPC
import Derived.Test.YtielflihgdebiaaGreatLD
open Go Go.Lft
namespace Go.Proofs.Pw

def tb (z : ZoneT) : Int × TrL := (z.2.1, outT z.2.1 (isort (occs z.2.2)))

theorem ZOk.tb {z : ZoneT} (h : ZOk z) : ZTab z (tb z).2 ∧ Z4 z (tb z).2 ∧ Dif z.2.1 (tb z).2 :=
  ⟨MZ.tab (o := z.2.1) (rs := z.2.2) h z.1, MZ.r4 (o := z.2.1) (rs := z.2.2) h z.1, dif_out _ _ _ (MZ.good h)⟩

theorem tabs_lp {zs : List ZoneT} (h : ∀ z ∈ zs, ZOk z) (hl : zs.length ≤ 100) : ∀ (n i : Nat), i + n = zs.length → zone_Tables_l0 zs (zs.length : Int) (i : Int) ((zs.take i).map tb) = some (zs.map tb)
  | 0, i, hi => by
    rw [zone_Tables_l0_eq]
    simp only [zone_Tables_l0_step]
    rw [dec_false (by omega), cond_false, lpK_inr, List.take_of_length_le (by omega)]
  | n + 1, i, hi => by
    have hlt : i < zs.length := by omega
    have hgd : zs.getD i (ByteArray.empty, ((0 : Int), ([] : List Rule))) = zs[i] := by simp [hlt]
    have ht := Of_ok (h zs[i] (List.getElem_mem hlt)).tb.1
    have ih := tabs_lp h hl n (i + 1) (by omega)
    rw [List.take_add_one, List.getElem?_eq_getElem hlt, List.map_append] at ih
    rw [zone_Tables_l0_eq]
    simp only [zone_Tables_l0_step]
    rw [dec_true (by omega), inR_t (by omega) (by omega), w64_in (x := (i : Int) + 1) (by omega) (by omega)]
    simp only [cond_true, Int.toNat_natCast, hgd]
    rw [show zone_Of (zs[i].1, (zs[i].2.1, zs[i].2.2)) = _ from ht]
    simp only [Option.bind_some]
    rw [dec_true (by simp [sizeMax]; omega), cond_true, lpK_inl]
    exact ih

theorem view_ok {zs : List ZoneT} (h : ∀ z ∈ zs, ZOk z) (hl : zs.length ≤ 100) {ps : List PersonT} {cs : List CalT} {ss : List SchedT} : duty_view (zs, (ps, (cs, ss))) = some ((zs, (ps, (cs, ss))), zs.map tb) := by
  have lp := tabs_lp h hl zs.length 0 (by omega)
  simp only [duty_view, zone_Tables, show Int.ofNat zs.length = (zs.length : Int) from rfl]
  rw [show zone_Tables_l0 zs (zs.length : Int) 0 [] = _ from lp]
  rfl

theorem tb_get {zs : List ZoneT} {i : Int} (h0 : 0 ≤ i) (h1 : i < (zs.length : Int)) : List.getD (zs.map tb) i.toNat ((0 : Int), ([] : TrL)) = tb (zs.getD i.toNat (ByteArray.empty, ((0 : Int), ([] : List Rule)))) := by
  have hlt : i.toNat < zs.length := by omega
  simp [List.getD_eq_getElem?_getD, hlt]

theorem zget {zs : List ZoneT} (h : ∀ z ∈ zs, ZOk z) {i : Int} (h0 : 0 ≤ i) (h1 : i < (zs.length : Int)) : ZOk (zs.getD i.toNat (ByteArray.empty, ((0 : Int), ([] : List Rule)))) := by
  have hlt : i.toNat < zs.length := by omega
  rw [List.getD_eq_getElem?_getD, List.getElem?_eq_getElem hlt]
  exact h _ (List.getElem_mem hlt)

theorem less_int (a b : Int) : cmp_Less_int a b = some (decide (a < b)) := by
  simp only [cmp_Less_int, cmp_isNaN_int, Option.bind_some, bne_self_eq_false, cond_false]

theorem bs_lp {ds : List Int} (hs : ds.Pairwise (· < ·)) (hl : ds.length ≤ 64) {x : Int} : ∀ (n a b : Nat), b - a ≤ n → a ≤ b → b ≤ ds.length → (∀ i, (hi : i < ds.length) → i < a → ds[i] < x) → (∀ i, (hi : i < ds.length) → b ≤ i → x ≤ ds[i]) →
    ∃ k : Nat, slices_BinarySearch_int_int_l0 ds x (ds.length : Int) (a : Int) (b : Int) = some (ds, x, (ds.length : Int), (k : Int)) ∧ k ≤ ds.length ∧ (∀ i, (hi : i < ds.length) → i < k → ds[i] < x) ∧ ∀ i, (hi : i < ds.length) → k ≤ i → x ≤ ds[i]
  | n, a, b, hn, hab, hb, h1, h2 => by
    rw [slices_BinarySearch_int_int_l0_eq]
    simp only [slices_BinarySearch_int_int_l0_step]
    by_cases hlt : a < b
    · have hm : IntKind.wrap .u64 ((a : Int) + (b : Int)) = (a : Int) + (b : Int) := IntWalk.u64_in _ ⟨by omega, by omega⟩
      have hd : Int.fdiv ((a : Int) + (b : Int)) 2 = (((a + b) / 2 : Nat) : Int) := by
        rw [Int.fdiv_eq_ediv_of_nonneg _ (by omega)]; omega
      have hml : (a + b) / 2 < ds.length := by omega
      have hgd : ds.getD ((a + b) / 2) (0 : Int) = ds[(a + b) / 2] := by simp [hml]
      rw [dec_true (show (a : Int) < (b : Int) by omega), w64_in (x := (a : Int) + (b : Int)) (by omega) (by omega), hm, hd, w64_in (x := (((a + b) / 2 : Nat) : Int)) (by omega) (by omega), inR_t (by omega) (by omega), w64_in (x := (((a + b) / 2 : Nat) : Int) + 1) (by omega) (by omega)]
      simp only [cond_true, Int.toNat_natCast, hgd, less_int, Option.bind_some]
      cases n with
      | zero => omega
      | succ n =>
        by_cases hc : ds[(a + b) / 2] < x
        · rw [dec_true hc, cond_true, lpK_inl]
          refine bs_lp hs hl n ((a + b) / 2 + 1) b (by omega) (by omega) hb (fun i hi hia => ?_) h2
          by_cases he : i = (a + b) / 2
          · subst he; exact hc
          · exact Int.lt_trans (List.pairwise_iff_getElem.1 hs i ((a + b) / 2) hi hml (by omega)) hc
        · rw [dec_false hc, cond_false, lpK_inl]
          refine bs_lp hs hl n a ((a + b) / 2) (by omega) (by omega) (by omega) h1 (fun i hi hia => ?_)
          by_cases he : i = (a + b) / 2
          · subst he; exact Int.not_lt.1 hc
          · exact Int.le_trans (Int.not_lt.1 hc) (Int.le_of_lt (List.pairwise_iff_getElem.1 hs ((a + b) / 2) i hml hi (by omega)))
    · have : a = b := by omega
      subst this
      rw [dec_false (by omega), cond_false, lpK_inr]
      exact ⟨a, rfl, hb, h1, h2⟩

theorem bs_ok {ds : List Int} (hs : ds.Pairwise (· < ·)) (hl : ds.length ≤ 64) (x : Int) : ∃ i, slices_BinarySearch_int_int ds x = some (i, decide (x ∈ ds)) := by
  obtain ⟨k, e, hk, h1, h2⟩ := bs_lp hs hl (x := x) ds.length 0 ds.length (by omega) (by omega) (Nat.le_refl _) (fun i _ h => by omega) (fun i hi h => by omega)
  rw [show ((0 : Nat) : Int) = 0 from rfl] at e
  simp only [slices_BinarySearch_int_int, show Int.ofNat ds.length = (ds.length : Int) from rfl, e, Option.bind_some, Int.toNat_natCast]
  by_cases hkl : k < ds.length
  · have hgd : ds.getD k (0 : Int) = ds[k] := by simp [hkl]
    rw [inR_t (by omega) (by omega), dec_true (show (k : Int) < (ds.length : Int) by omega), hgd]
    simp only [Bool.true_or, cond_true]
    by_cases hx : ds[k] = x
    · rw [beq_t hx]
      rw [dec_true (show x ∈ ds from hx ▸ List.getElem_mem hkl)]
      exact ⟨_, rfl⟩
    · rw [beq_f hx]
      have hn : ¬ x ∈ ds := by
        intro hm
        obtain ⟨i, hi, rfl⟩ := List.getElem_of_mem hm
        rcases Nat.lt_trichotomy i k with h | h | h
        · have := h1 i hi h; omega
        · subst h; exact hx rfl
        · have a1 := h2 k hkl (Nat.le_refl _)
          have a2 := List.pairwise_iff_getElem.1 hs k i hkl hi h
          omega
      rw [dec_false hn]
      simp only [cond_false, slices_isNaN_int, Option.bind_some, bne_self_eq_false]
      exact ⟨_, rfl⟩
  · have hn : ¬ x ∈ ds := by
      intro hm
      obtain ⟨i, hi, rfl⟩ := List.getElem_of_mem hm
      have := h1 i hi (by omega)
      omega
    rw [dec_false hn, dec_false (show ¬ (k : Int) < (ds.length : Int) by omega)]
    simp only [Bool.not_false, Bool.or_true, cond_true, cond_false, Bool.false_and]
    exact ⟨_, rfl⟩

def okW (w : WL) (s : Int) : Bool := cond (decide ((w.length : Int) > 0)) (hasB s w) true

section
variable {zs : List ZoneT} {ps : List PersonT} {cs : List CalT} {ss : List SchedT} (hz : ∀ z ∈ zs, ZOk z)
include hz

theorem OnV_ok {L : LayerT} (hL : LCk zs.length ps.length cs.length L) (hRt : Rt L) {t : Int} (h0 : 0 ≤ t) (h1 : t ≤ 8589934592) {z : ZoneT} (hzz : zs.getD L.2.1.toNat (ByteArray.empty, ((0 : Int), ([] : List Rule))) = z)
    {s : Int} {d : Int × Int} (hd : zone_Table_Local (tb z) t = some d) (hs : week_SecondOf d = some s) {K : Int} (hK : recur_ShiftOf (tb z) L t = some K) (b : Bool)
    (hcal : L.2.2.2.2.2.2.2.2 = 0 → b = true) (hcal2 : L.2.2.2.2.2.2.2.2 ≠ 0 → ∃ x : CalT, cs.getD L.2.2.2.2.2.2.2.1.toNat (ByteArray.empty, ((0 : Int), ([] : List Int))) = x ∧ CCk zs.length x ∧ ∃ d', zone_Table_Local (tb (zs.getD x.2.1.toNat (ByteArray.empty, ((0 : Int), ([] : List Rule))))) t = some d' ∧ b = (decide (d'.1 ∈ x.2.2) == (L.2.2.2.2.2.2.2.2 == (2 : Int)))) :
    ∃ r, duty_View_On ((zs, (ps, (cs, ss))), zs.map tb) L t = some (r, cond (decide (0 ≤ K)) (cond (okW L.2.2.2.2.2.2.1 s) b false) false) ∧ (cond (decide (0 ≤ K)) (cond (okW L.2.2.2.2.2.2.1 s) b false) false = true → r = K) := by
  have _ := hz; have _ := hRt
  have hwl := hL.wl
  have hlen : (zs.map tb).length = zs.length := List.length_map ..
  have hg := tb_get (zs := zs) hL.z0 hL.z1
  rw [hzz] at hg
  simp only [duty_View_On]
  rw [dec_false (show ¬ t < 0 by omega), dec_false (show ¬ t > 8589934592 by omega), inR_t hL.z0 (by rw [hlen]; exact hL.z1)]
  simp only [cond_false, cond_true, hg]
  rw [show recur_ShiftOf ((tb z).1, (tb z).2) (L.1, L.2.1, (L.2.2.1.1, L.2.2.1.2), L.2.2.2.1, L.2.2.2.2.1, L.2.2.2.2.2.1, L.2.2.2.2.2.2.1, L.2.2.2.2.2.2.2.1, L.2.2.2.2.2.2.2.2) t = _ from hK]
  simp only [Option.bind_some]
  by_cases hk : 0 ≤ K
  · rw [dec_false (show ¬ K < 0 by omega), dec_true hk]
    simp only [cond_false, cond_true, show Int.ofNat L.2.2.2.2.2.2.1.length = (L.2.2.2.2.2.2.1.length : Int) from rfl]
    have tail : ∃ r, (cond (L.2.2.2.2.2.2.2.2 == (0 : Int)) (some (K, true)) (cond (inR L.2.2.2.2.2.2.2.1 cs.length) (cond (inR (cs.getD L.2.2.2.2.2.2.2.1.toNat (ByteArray.empty, ((0 : Int), ([] : List Int)))).2.1 (zs.map tb).length) ((zone_Table_Local ((List.getD (zs.map tb) (cs.getD L.2.2.2.2.2.2.2.1.toNat (ByteArray.empty, ((0 : Int), ([] : List Int)))).2.1.toNat ((0 : Int), ([] : TrL))).1, (List.getD (zs.map tb) (cs.getD L.2.2.2.2.2.2.2.1.toNat (ByteArray.empty, ((0 : Int), ([] : List Int)))).2.1.toNat ((0 : Int), ([] : TrL))).2) t).bind fun r68 =>
        (slices_BinarySearch_int_int (cs.getD L.2.2.2.2.2.2.2.1.toNat (ByteArray.empty, ((0 : Int), ([] : List Int)))).2.2 r68.1).bind fun r70 => some (K, (r70.2 == (L.2.2.2.2.2.2.2.2 == (2 : Int))))) none) none)) = some (r, b) ∧ (b = true → r = K) := by
      by_cases hm : L.2.2.2.2.2.2.2.2 = 0
      · rw [beq_t hm, cond_true, hcal hm]
        exact ⟨K, rfl, fun _ => rfl⟩
      · obtain ⟨x, hx, hxc, d', hd', hb⟩ := hcal2 hm
        have hc := hL.cal hm
        obtain ⟨i, hi⟩ := bs_ok hxc.asc hxc.len d'.1
        have hg2 := tb_get (zs := zs) hxc.z0 hxc.z1
        rw [beq_f hm, cond_false, inR_t hc.1 hc.2, hx, inR_t hxc.z0 (by rw [hlen]; exact hxc.z1)]
        simp only [cond_true, hg2]
        rw [show zone_Table_Local ((tb (zs.getD x.2.1.toNat (ByteArray.empty, ((0 : Int), ([] : List Rule))))).1, (tb (zs.getD x.2.1.toNat (ByteArray.empty, ((0 : Int), ([] : List Rule))))).2) t = _ from hd']
        simp only [Option.bind_some, hi]
        rw [← hb]
        exact ⟨K, rfl, fun _ => rfl⟩
    by_cases hw : (L.2.2.2.2.2.2.1.length : Int) > 0
    · rw [dec_true hw, cond_true, show zone_Table_Local ((tb z).1, (tb z).2) t = _ from hd]
      simp only [Option.bind_some, show week_SecondOf (d.1, d.2) = _ from hs, Has_ok hwl, okW]
      rw [dec_true hw, cond_true]
      cases hh : hasB s L.2.2.2.2.2.2.1 with
      | true =>
        simp only [Bool.not_true, cond_false, cond_true]
        exact tail
      | false => exact ⟨0, rfl, fun h => by simp at h⟩
    · simp only [okW]
      rw [dec_false hw]
      simp only [cond_false, cond_true]
      exact tail
  · rw [dec_true (show K < 0 by omega), dec_false hk]
    exact ⟨0, rfl, fun h => by simp at h⟩

def whoL (L : LayerT) (K : Int) : Int := L.2.2.2.2.2.1.getD (Int.tmod K (L.2.2.2.2.2.1.length : Int)).toNat 0

omit hz in
theorem PersV_ok {v : CfgT × List (Int × TrL)} {L : LayerT} {t r K : Int} {b : Bool} (hm : L.2.2.2.2.2.1.length ≠ 0) (e : duty_View_On v L t = some (r, b)) (hr : b = true → r = K) (hK : b = true → 0 ≤ K) :
    duty_View_Person v L t = some (cond b (whoL L K) (-1)) := by
  simp only [duty_View_Person, show duty_View_On ((v.1.1, v.1.2.1, v.1.2.2.1, v.1.2.2.2), v.2) (L.1, L.2.1, (L.2.2.1.1, L.2.2.1.2), L.2.2.2.1, L.2.2.2.2.1, L.2.2.2.2.2.1, L.2.2.2.2.2.2.1, L.2.2.2.2.2.2.2.1, L.2.2.2.2.2.2.2.2) t = _ from e, Option.bind_some]
  cases b with
  | false => rfl
  | true =>
    have := hr rfl
    subst this
    have hk := hK rfl
    have q1 : 0 ≤ Int.tmod r (L.2.2.2.2.2.1.length : Int) := Int.tmod_nonneg _ hk
    have q2 : Int.tmod r (L.2.2.2.2.2.1.length : Int) < (L.2.2.2.2.2.1.length : Int) := Int.tmod_lt_of_pos _ (by omega)
    simp only [Bool.not_true, cond_false, cond_true, show Int.ofNat L.2.2.2.2.2.1.length = (L.2.2.2.2.2.1.length : Int) from rfl, whoL]
    rw [beq_f (show ¬ (L.2.2.2.2.2.1.length : Int) = 0 by omega), inR_t q1 q2]
    rfl
end

theorem LCk.rt {nz np nc : Nat} {L : LayerT} (h : LCk nz np nc L) (hd : L.2.2.1.1 ≤ 100000) : Rt L :=
  ⟨h.d0, hd, h.c0, h.c1, h.u0, h.u1, h.e0, h.e1, fun hn => h.m0 (by rw [hn]; rfl)⟩

end Go.Proofs.Pw

/- Chapter 10: what the reference checks. -/
open Go Go.Lft
namespace Go.Proofs.Pw

instance (L : LayerT) : Decidable (Rt L) :=
  decidable_of_iff (1 ≤ L.2.2.1.1 ∧ L.2.2.1.1 ≤ 100000 ∧ 0 ≤ L.2.2.1.2 ∧ L.2.2.1.2 ≤ 86399 ∧ 0 ≤ L.2.2.2.1 ∧ L.2.2.2.1 ≤ 2 ∧ 1 ≤ L.2.2.2.2.1 ∧ L.2.2.2.2.1 ≤ 400 ∧ L.2.2.2.2.2.1 ≠ [])
    ⟨fun ⟨a, b, c, d, e, f, g, h, i⟩ => ⟨a, b, c, d, e, f, g, h, i⟩, fun ⟨a, b, c, d, e, f, g, h, i⟩ => ⟨a, b, c, d, e, f, g, h, i⟩⟩

section
variable {z : ZoneT} {l : TrL} (h4 : Z4 z l)
include h4

end
end Go.Proofs.Pw

/- DutyTurns. -/
open Go Go.Lft
namespace Go.Proofs.Pw

theorem LOk.small2 {L : LayerT} (h : LOk L) {k : Int} (hk : 0 ≤ k) (hk2 : k ≤ 20) : 0 ≤ k * stepD L ∧ k * stepD L ≤ 2000 := by
  have h1 := h.lr.step
  have he0 := h.e0; have he1 := h.e1
  refine ⟨Int.mul_nonneg hk (by omega), ?_⟩
  by_cases h0 : L.2.2.2.1 = 0
  · have hs : stepD L ≤ 49 := by unfold stepD; rw [if_neg (by omega)]; omega
    have : k * stepD L ≤ 20 * 49 := Int.mul_le_mul hk2 hs (by omega) (by omega)
    omega
  · have he2 := h.e2 h0
    have hs : stepD L ≤ 14 := by unfold stepD; split <;> omega
    have : k * stepD L ≤ 20 * 14 := Int.mul_le_mul hk2 hs (by omega) (by omega)
    omega

theorem LOk.up {o : Int} {l : TrL} (h : TOk o l) (hd : Dif o l) {L : LayerT} (hL : LOk L) {k : Int} (hk : 0 ≤ k) (hk2 : k ≤ 19) : hov o l L k < hov o l L (k + 1) :=
  hov_up h hd hL.lr hk (fun _ => by have := (hL.small2 (k := k + 1) (by omega) (by omega)).2; omega)

section
variable {zs : List ZoneT} {ps : List PersonT} {cs : List CalT} {ss : List SchedT} (hs : SOk2 zs ps cs) (g0 : ss.length ≤ 12) (g1 : NmL (ss.map (·.1))) (g2 : ∀ s ∈ ss, SCk zs.length ps.length cs.length s)
include hs g0 g1 g2

theorem D_ok {L : LayerT} (hL : LCk zs.length ps.length cs.length L) (hn : lexer_Name L.1 = some true) (hRt : Rt L) {t : Int} (h0 : 0 ≤ t) (h1 : t ≤ 8589934592) {z : ZoneT} (hzz : zs.getD L.2.1.toNat (ByteArray.empty, ((0 : Int), ([] : List Rule))) = z)
    {s : Int} {d : Int × Int} (hd : zone_Table_Local (tb z) t = some d) (hsec : week_SecondOf d = some s) {K : Int} (hK : ShO z.2.1 (tb z).2 L t K) (hz : ZOk z) (b : Bool)
    (hcal : L.2.2.2.2.2.2.2.2 = 0 → b = true) (hcal2 : L.2.2.2.2.2.2.2.2 ≠ 0 → ∃ x : CalT, cs.getD L.2.2.2.2.2.2.2.1.toNat (ByteArray.empty, ((0 : Int), ([] : List Int))) = x ∧ CCk zs.length x ∧ ∃ d', zone_Table_Local (tb (zs.getD x.2.1.toNat (ByteArray.empty, ((0 : Int), ([] : List Rule))))) t = some d' ∧ b = (decide (d'.1 ∈ x.2.2) == (L.2.2.2.2.2.2.2.2 == (2 : Int)))) :
    duty_On (zs, (ps, (cs, ss))) L t = some (cond (decide (0 ≤ K)) (cond (okW L.2.2.2.2.2.2.1 s) b false) false) ∧
    duty_Person (zs, (ps, (cs, ss))) L t = some (cond (cond (decide (0 ≤ K)) (cond (okW L.2.2.2.2.2.2.1 s) b false) false) (whoL L K) (-1)) := by
  have hf := fits_ok hs g0 g1 g2 hL hn
  have hv := view_ok (ps := ps) (cs := cs) (ss := ss) hs.so.ok (by have := hs.so.z1; omega)
  obtain ⟨K', eK, hK'⟩ := recSh hz.tb.1.2 hRt h0 h1
  have := ShO.uniq hz.tb.1.2 hRt hK' hK
  subst this
  obtain ⟨r, er, hr⟩ := OnV_ok (ps := ps) (ss := ss) hs.so.ok hL hRt h0 h1 hzz hd hsec eK b hcal hcal2
  have hp := PersV_ok hL.m0 er hr (fun hb => by
    by_cases hk : 0 ≤ K'
    · exact hk
    · rw [dec_false hk] at hb; simp at hb)
  have hf' : duty_fits (zs, ps, cs, ss) (L.1, L.2.1, (L.2.2.1.1, L.2.2.1.2), L.2.2.2.1, L.2.2.2.2.1, L.2.2.2.2.2.1, L.2.2.2.2.2.2.1, L.2.2.2.2.2.2.2.1, L.2.2.2.2.2.2.2.2) = _ := hf
  constructor
  · simp only [duty_On, hf', Option.bind_some, Bool.not_true, cond_false, hv]
    rw [show duty_View_On ((zs, ps, cs, ss), zs.map tb) (L.1, L.2.1, (L.2.2.1.1, L.2.2.1.2), L.2.2.2.1, L.2.2.2.2.1, L.2.2.2.2.2.1, L.2.2.2.2.2.2.1, L.2.2.2.2.2.2.2.1, L.2.2.2.2.2.2.2.2) t = _ from er]
    rfl
  · simp only [duty_Person, hf', Option.bind_some, Bool.not_true, cond_false, hv]
    rw [show duty_View_Person ((zs, ps, cs, ss), zs.map tb) (L.1, L.2.1, (L.2.2.1.1, L.2.2.1.2), L.2.2.2.1, L.2.2.2.2.1, L.2.2.2.2.2.1, L.2.2.2.2.2.2.1, L.2.2.2.2.2.2.2.1, L.2.2.2.2.2.2.2.2) t = _ from hp]
    rfl

end

end Go.Proofs.Pw

/- DutyCalendars. -/
open Go Go.Lft
namespace Go.Proofs.Pw

theorem secC_ok {z : ZoneT} (hz : ZOk z) {t : Int} (h0 : 0 ≤ t) (h1 : t ≤ 8589934592) : ∃ d s, zone_Table_Local (tb z) t = some d ∧ week_SecondOf d = some s ∧ r04_ToLocal z t = some (d, 0) := by
  obtain ⟨ht, h4, _⟩ := hz.tb
  obtain ⟨j, hj, j1, j2⟩ := ex_piece ht.2 h0 h1
  have o0 := ht.2.of0 j hj; have o1 := ht.2.of1 j hj
  obtain ⟨s, hs⟩ : ∃ s, week_SecondOf ((t + tof z.2.1 (tb z).2 j) / 86400, (t + tof z.2.1 (tb z).2 j) % 86400) = some s := by
    simp only [week_SecondOf, Weekday_eq, Option.bind_some]
    exact ⟨_, rfl⟩
  exact ⟨_, s, Local_ok ht.2 hj j1 j2, hs, r4ToL_ok h4 h0 h1 hj j1 j2⟩

theorem dc_l2 {s1 s10 s12 s13 s14 s16 : Int} {xs : List Int} (hx : xs.length ≤ 1000) {zs : List ZoneT} {ps : List PersonT} {A B C : LayerT} {d0 d1 : Int} {D : List Int} {a : Int} {cs : List CalT} : ∀ (n i : Nat) (fl : Bool), i + n = xs.length →
    law11_DutyCalendars_l2 s1 s10 s12 s13 s14 s16 fl xs (xs.length : Int) (i : Int) zs ps A.1 A.2.1 A.2.2.1.1 A.2.2.1.2 A.2.2.2.1 A.2.2.2.2.1 A.2.2.2.2.2.1 A.2.2.2.2.2.2.1 A.2.2.2.2.2.2.2.1 A.2.2.2.2.2.2.2.2
      B.1 B.2.1 B.2.2.1.1 B.2.2.1.2 B.2.2.2.1 B.2.2.2.2.1 B.2.2.2.2.2.1 B.2.2.2.2.2.2.1 B.2.2.2.2.2.2.2.1 B.2.2.2.2.2.2.2.2
      C.1 C.2.1 C.2.2.1.1 C.2.2.1.2 C.2.2.2.1 C.2.2.2.2.1 C.2.2.2.2.2.1 C.2.2.2.2.2.2.1 C.2.2.2.2.2.2.2.1 C.2.2.2.2.2.2.2.2 d0 d1 D a cs =
    some (s1, s10, s12, s13, s14, s16, cond fl true (decide (d0 ∈ xs.drop i)), zs, ps, A.1, A.2.1, A.2.2.1.1, A.2.2.1.2, A.2.2.2.1, A.2.2.2.2.1, A.2.2.2.2.2.1, A.2.2.2.2.2.2.1, A.2.2.2.2.2.2.2.1, A.2.2.2.2.2.2.2.2,
      B.1, B.2.1, B.2.2.1.1, B.2.2.1.2, B.2.2.2.1, B.2.2.2.2.1, B.2.2.2.2.2.1, B.2.2.2.2.2.2.1, B.2.2.2.2.2.2.2.1, B.2.2.2.2.2.2.2.2,
      C.1, C.2.1, C.2.2.1.1, C.2.2.1.2, C.2.2.2.1, C.2.2.2.2.1, C.2.2.2.2.2.1, C.2.2.2.2.2.2.1, C.2.2.2.2.2.2.2.1, C.2.2.2.2.2.2.2.2, D, a, cs)
  | 0, i, fl, hi => by
    rw [law11_DutyCalendars_l2_eq]
    simp only [law11_DutyCalendars_l2_step]
    rw [dec_false (by omega), cond_false, lpK_inr, List.drop_of_length_le (by omega)]
    cases fl <;> simp
  | n + 1, i, fl, hi => by
    have hlt : i < xs.length := by omega
    have hgd : xs.getD i (0 : Int) = xs[i] := by simp [hlt]
    rw [law11_DutyCalendars_l2_eq]
    simp only [law11_DutyCalendars_l2_step]
    rw [dec_true (by omega), inR_t (by omega) (by omega), w64_in (x := (i : Int) + 1) (by omega) (by omega)]
    simp only [cond_true, Int.toNat_natCast, hgd, lpK_inl]
    have ih := dc_l2 (s1 := s1) (s10 := s10) (s12 := s12) (s13 := s13) (s14 := s14) (s16 := s16) hx (zs := zs) (ps := ps) (A := A) (B := B) (C := C) (d0 := d0) (d1 := d1) (D := D) (a := a) (cs := cs) n (i + 1) (cond fl true (xs[i] == d0)) (by omega)
    have hfl : cond (cond fl true (xs[i] == d0)) true (decide (d0 ∈ xs.drop (i + 1))) = cond fl true (decide (d0 ∈ xs.drop i)) := by
      rw [List.drop_eq_getElem_cons hlt]
      cases fl with
      | true => rfl
      | false =>
        simp only [cond_false, List.mem_cons]
        by_cases he : xs[i] = d0
        · rw [beq_t he, dec_true (Or.inl he.symm)]; rfl
        · rw [beq_f he]
          simp only [cond_false]
          by_cases hm : d0 ∈ xs.drop (i + 1)
          · rw [dec_true hm, dec_true (Or.inr hm)]
          · rw [dec_false hm, dec_false (fun h => h.elim (fun h => he h.symm) hm)]
    rw [hfl] at ih
    exact ih

def withC (L : LayerT) (m : Int) : LayerT := (L.1, L.2.1, L.2.2.1, L.2.2.2.1, L.2.2.2.2.1, L.2.2.2.2.2.1, L.2.2.2.2.2.2.1, 0, m)

section
variable {zs : List ZoneT} {ps : List PersonT} {x : Int} {ds : List Int} (hs : SOk2 zs ps [(ByteArray.mk #[100, 97, 121, 115], (x, ds))])
include hs

theorem dc_l0 {L : LayerT} (h0L : LCk zs.length ps.length 1 (withC L 0)) (h1L : LCk zs.length ps.length 1 (withC L 1)) (h2L : LCk zs.length ps.length 1 (withC L 2)) (hn : lexer_Name L.1 = some true) (hd : L.2.2.1.1 ≤ 100000) {s1 : Int} {D : List Int} : ∀ (n : Nat) (k a : Int), k + n = 12 → 0 ≤ k → DOk D a →
    law11_DutyCalendars_l0 s1 k zs ps L.1 L.2.1 L.2.2.1.1 L.2.2.1.2 L.2.2.2.1 L.2.2.2.2.1 L.2.2.2.2.2.1 L.2.2.2.2.2.2.1 0 0 L.1 L.2.1 L.2.2.1.1 L.2.2.1.2 L.2.2.2.1 L.2.2.2.2.1 L.2.2.2.2.2.1 L.2.2.2.2.2.2.1 0 1 L.1 L.2.1 L.2.2.1.1 L.2.2.1.2 L.2.2.2.1 L.2.2.2.2.1 L.2.2.2.2.2.1 L.2.2.2.2.2.2.1 0 2 D a [(ByteArray.mk #[100, 97, 121, 115], (x, ds))] = some (.inr ())
  | 0, k, a, hk, _, _ => by
    rw [law11_DutyCalendars_l0_eq]
    simp only [law11_DutyCalendars_l0_step]
    rw [dec_false (by omega), cond_false, lpK_inr]
  | n + 1, k, a, hk, hk0, hda => by
    obtain ⟨t, a1, e1, t0, t1, d1⟩ := Instant_ok hda
    have ih := dc_l0 h0L h1L h2L hn hd (s1 := s1) (D := D) n (k + 1) a1 (by omega) (by omega) d1
    have hmod := Mod_eq s1 86400 (by omega) (by omega)
    have hxc := hs.c.ck _ (List.mem_singleton.2 rfl)
    have hx0 : 0 ≤ x := hxc.z0
    have hx1 : x < (zs.length : Int) := hxc.z1
    have hz := zget hs.so.ok h0L.z0 h0L.z1
    have hzc := zget hs.so.ok hx0 hx1
    have ht0 : 0 ≤ t + s1 % 86400 := by omega
    have ht1 : t + s1 % 86400 ≤ 8589934592 := by omega
    obtain ⟨d, s, hdl, hsec, _⟩ := secC_ok hz ht0 ht1
    obtain ⟨d', s', hdl', hsec', hr4⟩ := secC_ok hzc ht0 ht1
    have hRt : ∀ m : Int, LCk zs.length ps.length 1 (withC L m) → Rt (withC L m) := fun m h => h.rt hd
    obtain ⟨K, _, hK⟩ := recSh hz.tb.1.2 (hRt 0 h0L) ht0 ht1
    have P0 := (D_ok (ss := []) hs (by simp) NmL.nil (by simp) h0L hn (hRt 0 h0L) ht0 ht1 rfl hdl hsec hK hz true (fun _ => rfl) (fun h => absurd rfl h)).2
    have P1 := (D_ok (ss := []) hs (by simp) NmL.nil (by simp) h1L hn (hRt 1 h1L) ht0 ht1 rfl hdl hsec (K := K) hK hz (!decide (d'.1 ∈ ds)) (fun h => by simp [withC] at h) (fun _ => ⟨_, rfl, hxc, d', hdl', by
      show (!decide (d'.1 ∈ ds)) = (decide (d'.1 ∈ ds) == ((1 : Int) == 2))
      cases decide (d'.1 ∈ ds) <;> rfl⟩)).2
    have P2 := (D_ok (ss := []) hs (by simp) NmL.nil (by simp) h2L hn (hRt 2 h2L) ht0 ht1 rfl hdl hsec (K := K) hK hz (decide (d'.1 ∈ ds)) (fun h => by simp [withC] at h) (fun _ => ⟨_, rfl, hxc, d', hdl', by
      show (decide (d'.1 ∈ ds)) = (decide (d'.1 ∈ ds) == ((2 : Int) == 2))
      cases decide (d'.1 ∈ ds) <;> rfl⟩)).2
    have l2 := fun (p q r : Int) => dc_l2 (s1 := s1) (s10 := k) (s12 := p) (s13 := q) (s14 := r) (s16 := 0) (xs := ds) (by have := hxc.len; dsimp only at this; omega) (zs := zs) (ps := ps) (A := withC L 0) (B := withC L 1) (C := withC L 2) (d0 := d'.1) (d1 := d'.2) (D := D) (a := a1) (cs := [(ByteArray.mk #[100, 97, 121, 115], (x, ds))]) ds.length 0 false (by omega)
    simp only [show ((0 : Nat) : Int) = 0 from rfl, List.drop_zero, cond_false] at l2
    rw [law11_DutyCalendars_l0_eq]
    simp only [law11_DutyCalendars_l0_step]
    rw [dec_true (show k < 12 by omega)]
    simp only [cond_true, e1, Option.bind_some, hmod]
    rw [w64_in (x := t + s1 % 86400) (by omega) (by omega)]
    rw [show duty_Person (zs, ps, [(ByteArray.mk #[100, 97, 121, 115], (x, ds))], []) (L.1, L.2.1, (L.2.2.1.1, L.2.2.1.2), L.2.2.2.1, L.2.2.2.2.1, L.2.2.2.2.2.1, L.2.2.2.2.2.2.1, 0, 0) (t + s1 % 86400) = _ from P0]
    rw [show duty_Person (zs, ps, [(ByteArray.mk #[100, 97, 121, 115], (x, ds))], []) (L.1, L.2.1, (L.2.2.1.1, L.2.2.1.2), L.2.2.2.1, L.2.2.2.2.1, L.2.2.2.2.2.1, L.2.2.2.2.2.2.1, 0, 1) (t + s1 % 86400) = _ from P1]
    rw [show duty_Person (zs, ps, [(ByteArray.mk #[100, 97, 121, 115], (x, ds))], []) (L.1, L.2.1, (L.2.2.1.1, L.2.2.1.2), L.2.2.2.1, L.2.2.2.2.1, L.2.2.2.2.2.1, L.2.2.2.2.2.2.1, 0, 2) (t + s1 % 86400) = _ from P2]
    simp only [Option.bind_some, List.length_singleton, List.getD_cons_zero]
    rw [inR_t (show (0 : Int) ≤ 0 by omega) (by omega), inR_t hx0 hx1]
    simp only [cond_true]
    rw [show r04_ToLocal ((zs.getD x.toNat (ByteArray.empty, ((0 : Int), ([] : List Rule)))).1, ((zs.getD x.toNat (ByteArray.empty, ((0 : Int), ([] : List Rule)))).2.1, (zs.getD x.toNat (ByteArray.empty, ((0 : Int), ([] : List Rule)))).2.2)) (t + s1 % 86400) = _ from hr4]
    simp only [Option.bind_some, show Int.ofNat ds.length = (ds.length : Int) from rfl]
    generalize hp : cond (cond (decide (0 ≤ K)) (cond (okW (withC L 0).2.2.2.2.2.2.1 s) true false) false) (whoL (withC L 0) K) (-1) = p
    generalize hq : cond (cond (decide (0 ≤ K)) (cond (okW (withC L 1).2.2.2.2.2.2.1 s) (!decide (d'.1 ∈ ds)) false) false) (whoL (withC L 1) K) (-1) = q
    generalize hr : cond (cond (decide (0 ≤ K)) (cond (okW (withC L 2).2.2.2.2.2.2.1 s) (decide (d'.1 ∈ ds)) false) false) (whoL (withC L 2) K) (-1) = r
    rw [show law11_DutyCalendars_l2 s1 k p q r 0 false ds (ds.length : Int) 0 zs ps L.1 L.2.1 L.2.2.1.1 L.2.2.1.2 L.2.2.2.1 L.2.2.2.2.1 L.2.2.2.2.2.1 L.2.2.2.2.2.2.1 0 0 L.1 L.2.1 L.2.2.1.1 L.2.2.1.2 L.2.2.2.1 L.2.2.2.2.1 L.2.2.2.2.2.1 L.2.2.2.2.2.2.1 0 1 L.1 L.2.1 L.2.2.1.1 L.2.2.1.2 L.2.2.2.1 L.2.2.2.2.1 L.2.2.2.2.2.1 L.2.2.2.2.2.2.1 0 2 d'.1 d'.2 D a1 [(ByteArray.mk #[100, 97, 121, 115], (x, ds))] = _ from l2 p q r]
    simp only [Option.bind_some, bne_self_eq_false, cond_false]
    have hw1 : whoL (withC L 1) K = whoL (withC L 0) K := rfl
    have hw2 : whoL (withC L 2) K = whoL (withC L 0) K := rfl
    have ho1 : okW (withC L 1).2.2.2.2.2.2.1 s = okW (withC L 0).2.2.2.2.2.2.1 s := rfl
    have ho2 : okW (withC L 2).2.2.2.2.2.2.1 s = okW (withC L 0).2.2.2.2.2.2.1 s := rfl
    rw [hw1, ho1] at hq
    rw [hw2, ho2] at hr
    have key : cond (cond (decide (d'.1 ∈ ds)) (cond (q != (-1 : Int)) true (r != p)) false) true (cond (!decide (d'.1 ∈ ds)) (cond (r != (-1 : Int)) true (q != p)) false) = false := by
      subst hp; subst hq; subst hr
      generalize whoL (withC L 0) K = v
      cases decide (d'.1 ∈ ds) <;> cases decide (0 ≤ K) <;> cases okW (withC L 0).2.2.2.2.2.2.1 s <;> simp
    rw [key, w64_in (x := k + 1) (by omega) (by omega)]
    simp only [cond_false, lpK_inl]
    exact ih
end

theorem DutyCalendars_true (t : List Int) (_h : Wf (.list (.int .i64)) t) (n : Int) (_hn : Wf (.int .i64) n) : law11_DutyCalendars t n = some true := by
  simp only [law11_DutyCalendars, made_Light, Option.bind_some, show Int.ofNat (List.length t) = (t.length : Int) from rfl]
  by_cases hl : (t.length : Int) ≤ 500
  · rw [dec_true hl]
    simp only [Bool.not_true, cond_false, made_Roll, Option.bind_some]
    obtain ⟨zs, ps, cs, ss, a1, e1, hs, g0, g1, g2, d1⟩ := Config1_ok (L := t) (a := 0) ⟨by omega, by omega, by omega⟩
    have hz0 := hs.so.z0; have hz1 := hs.so.z1
    obtain ⟨x, a2, e2, x0, x1, d2⟩ := Next_ok (n := (zs.length : Int)) d1 (by omega) (by omega)
    obtain ⟨y1, a3, e3, y10, y11, d3⟩ := Next_ok (n := 5) d2 (by omega) (by omega)
    obtain ⟨y2, a4, e4, y20, y21, d4⟩ := Next_ok (n := 3) d3 (by omega) (by omega)
    obtain ⟨y3, a5, e5, y30, y31, d5⟩ := Next_ok (n := 9) d4 (by omega) (by omega)
    have hcs : CInv zs.length [(ByteArray.mk #[100, 97, 121, 115], (x, [20454 + y1, 20459 + y2, 20462 + y3]))] := by
      refine ⟨fun c hc => ?_, NmL.one nm_days, by simp⟩
      simp at hc; subst hc
      refine ⟨x0, x1, by simp, fun d hd => ?_, ?_⟩
      · simp at hd
        exact day_ok (by omega) (by omega)
      · simp only [List.pairwise_cons, List.mem_cons, List.not_mem_nil, or_false, forall_eq_or_imp, forall_eq, List.Pairwise.nil, false_implies, implies_true, and_true]
        omega
    have hs2 : SOk2 zs ps [(ByteArray.mk #[100, 97, 121, 115], (x, [20454 + y1, 20459 + y2, 20462 + y3]))] := ⟨⟨hs.so.z0, hs.so.z1, hs.so.ok, hs.so.p0, hs.so.p1, by simp⟩, hs.z, hs.p, hcs⟩
    obtain ⟨L, a6, e6, hLO, hLC, hnm, d6⟩ := Layer2_ok (ss := []) d5 hs2.so (ByteArray.mk #[97])
    have hd1 := hLO.d1
    simp only [e1, Option.bind_some, show Int.ofNat (List.length zs) = (zs.length : Int) from rfl, e2, e3, e4, e5]
    rw [w64_in (x := 20454 + y1) (by omega) (by omega), w64_in (x := 20459 + y2) (by omega) (by omega), w64_in (x := 20462 + y3) (by omega) (by omega)]
    simp only [e6, Option.bind_some]
    have mk : ∀ m : Int, 0 ≤ m → m ≤ 2 → LCk zs.length ps.length 1 (withC L m) := fun m h0 h2 =>
      ⟨hLC.z0, hLC.z1, hLC.d0, hLC.day, hLC.c0, hLC.c1, hLC.u0, hLC.u1, hLC.e0, hLC.e1, hLC.m0, hLC.m1, hLC.mem, hLC.w, hLC.wl, h0, h2, fun _ => ⟨Int.le_refl _, by show (0 : Int) < 1; omega⟩, fun _ => rfl⟩
    have hln : lexer_Name L.1 = some true := by rw [hnm]; exact nm_a
    have lp := dc_l0 hs2 (mk 0 (by omega) (by omega)) (mk 1 (by omega) (by omega)) (mk 2 (by omega) (by omega)) hln (by omega) (s1 := n) (D := t) 12 0 a6 (by omega) (by omega) d6
    rw [lp]
    simp only [Option.bind_some, sumC_inr, sane11]
  · rw [dec_false hl]
    simp only [Bool.not_false, cond_true, sane11, Option.bind_some]
end Go.Proofs.Pw
