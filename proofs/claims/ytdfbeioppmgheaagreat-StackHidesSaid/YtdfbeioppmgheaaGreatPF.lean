/- Chapter 11: who is on duty in a layer. -/
import Derived.Test.YtdfbeioppmgheaaGreatPE
import Derived.Test.YtdfbeioppmgheaaGreatPB
import Derived.KernelRfl
open Go Go.Lft
namespace Go.Proofs.Pw
def tb (z : ZoneT) : Int × TrL := (z.2.1, outT z.2.1 (isort (occs z.2.2)))
theorem ZOk.ztab {z : ZoneT} (h : ZOk z) : ZTab z (tb z).2 := MZ.tab (o := z.2.1) (rs := z.2.2) h z.1
theorem tabs_lp {zs : List ZoneT} (h : ∀ z ∈ zs, ZOk z) (hl : zs.length ≤ 100) : ∀ (n i : Nat), i + n = zs.length → zone_Tables_l0 zs (zs.length : Int) (i : Int) ((zs.take i).map tb) = some (zs.map tb)
 | 0, i, hi => by
   rw [zone_Tables_l0_eq]
   simp only [zone_Tables_l0_step]
   rw [dec_false (by omega), cond_false, lpK_inr, List.take_of_length_le (by omega)]
 | n + 1, i, hi => by
   have hlt : i < zs.length := by omega
   have hgd : zs.getD i (ByteArray.empty, ((0 : Int), ([] : List Rule))) = zs[i] := by simp [hlt]
   have ht := Of_ok (h zs[i] (List.getElem_mem hlt)).ztab
   have ih := tabs_lp h hl n (i + 1) (by omega)
   rw [List.take_add_one, List.getElem?_eq_getElem hlt, List.map_append] at ih
   rw [zone_Tables_l0_eq]
   simp only [zone_Tables_l0_step]
   rw [dec_true (by omega), inR_t (by omega) (by omega), w64_in (x := (i : Int) + 1) (by omega) (by omega)]
   simp only [cond_true, Int.toNat_natCast, hgd]
   rw [show zone_Of (zs[i].1, (zs[i].2.1, zs[i].2.2)) = _ from ht]
   simp only [Option.bind_some]
   rw [dec_true (by simp [sizeMax]; omega), cond_true, lpK_inl]
   exact ih
theorem view_ok {zs : List ZoneT} (h : ∀ z ∈ zs, ZOk z) (hl : zs.length ≤ 100) {ps : List PersonT} {cs : List CalT} {ss : List SchedT} : duty_view (zs, (ps, (cs, ss))) = some ((zs, (ps, (cs, ss))), zs.map tb) := by
 have lp := tabs_lp h hl zs.length 0 (by omega)
 simp only [duty_view, zone_Tables, show Int.ofNat zs.length = (zs.length : Int) from rfl]
 rw [show zone_Tables_l0 zs (zs.length : Int) 0 [] = _ from lp]
 rfl
theorem tb_get {zs : List ZoneT} {i : Int} (h0 : 0 ≤ i) (h1 : i < (zs.length : Int)) : List.getD (zs.map tb) i.toNat ((0 : Int), ([] : TrL)) = tb (zs.getD i.toNat (ByteArray.empty, ((0 : Int), ([] : List Rule)))) := by
 have hlt : i.toNat < zs.length := by omega
 simp [List.getD_eq_getElem?_getD, hlt]
theorem zget {zs : List ZoneT} (h : ∀ z ∈ zs, ZOk z) {i : Int} (h0 : 0 ≤ i) (h1 : i < (zs.length : Int)) : ZOk (zs.getD i.toNat (ByteArray.empty, ((0 : Int), ([] : List Rule)))) := by
 have hlt : i.toNat < zs.length := by omega
 rw [List.getD_eq_getElem?_getD, List.getElem?_eq_getElem hlt]
 exact h _ (List.getElem_mem hlt)
theorem less_int (a b : Int) : cmp_Less_int a b = some (decide (a < b)) := by
 simp only [cmp_Less_int, cmp_isNaN_int, Option.bind_some, bne_self_eq_false, cond_false]
theorem bs_lp {ds : List Int} (hs : ds.Pairwise (· < ·)) (hl : ds.length ≤ 64) {x : Int} : ∀ (n a b : Nat), b - a ≤ n → a ≤ b → b ≤ ds.length → (∀ i, (hi : i < ds.length) → i < a → ds[i] < x) → (∀ i, (hi : i < ds.length) → b ≤ i → x ≤ ds[i]) →
   ∃ k : Nat, slices_BinarySearch_int_int_l0 ds x (ds.length : Int) (a : Int) (b : Int) = some (ds, x, (ds.length : Int), (k : Int)) ∧ k ≤ ds.length ∧ (∀ i, (hi : i < ds.length) → i < k → ds[i] < x) ∧ ∀ i, (hi : i < ds.length) → k ≤ i → x ≤ ds[i]
 | n, a, b, hn, hab, hb, h1, h2 => by
   rw [slices_BinarySearch_int_int_l0_eq]
   simp only [slices_BinarySearch_int_int_l0_step]
   by_cases hlt : a < b
   · have hm : IntKind.wrap .u64 ((a : Int) + (b : Int)) = (a : Int) + (b : Int) := IntWalk.u64_in _ ⟨by omega, by omega⟩
     have hd : Int.fdiv ((a : Int) + (b : Int)) 2 = (((a + b) / 2 : Nat) : Int) := by
       rw [Int.fdiv_eq_ediv_of_nonneg _ (by omega)]; omega
     have hml : (a + b) / 2 < ds.length := by omega
     have hgd : ds.getD ((a + b) / 2) (0 : Int) = ds[(a + b) / 2] := by simp [hml]
     rw [dec_true (show (a : Int) < (b : Int) by omega), w64_in (x := (a : Int) + (b : Int)) (by omega) (by omega), hm, hd, w64_in (x := (((a + b) / 2 : Nat) : Int)) (by omega) (by omega), inR_t (by omega) (by omega), w64_in (x := (((a + b) / 2 : Nat) : Int) + 1) (by omega) (by omega)]
     simp only [cond_true, Int.toNat_natCast, hgd, less_int, Option.bind_some]
     cases n with
     | zero => omega
     | succ n =>
       by_cases hc : ds[(a + b) / 2] < x
       · rw [dec_true hc, cond_true, lpK_inl]
         refine bs_lp hs hl n ((a + b) / 2 + 1) b (by omega) (by omega) hb (fun i hi hia => ?_) h2
         by_cases he : i = (a + b) / 2
         · subst he; exact hc
         · exact Int.lt_trans (List.pairwise_iff_getElem.1 hs i ((a + b) / 2) hi hml (by omega)) hc
       · rw [dec_false hc, cond_false, lpK_inl]
         refine bs_lp hs hl n a ((a + b) / 2) (by omega) (by omega) (by omega) h1 (fun i hi hia => ?_)
         by_cases he : i = (a + b) / 2
         · subst he; exact Int.not_lt.1 hc
         · exact Int.le_trans (Int.not_lt.1 hc) (Int.le_of_lt (List.pairwise_iff_getElem.1 hs ((a + b) / 2) i hml hi (by omega)))
   · have : a = b := by omega
     subst this
     rw [dec_false (by omega), cond_false, lpK_inr]
     exact ⟨a, rfl, hb, h1, h2⟩
theorem bs_ok {ds : List Int} (hs : ds.Pairwise (· < ·)) (hl : ds.length ≤ 64) (x : Int) : ∃ i, slices_BinarySearch_int_int ds x = some (i, decide (x ∈ ds)) := by
 obtain ⟨k, e, hk, h1, h2⟩ := bs_lp hs hl (x := x) ds.length 0 ds.length (by omega) (by omega) (Nat.le_refl _) (fun i _ h => by omega) (fun i hi h => by omega)
 rw [show ((0 : Nat) : Int) = 0 from rfl] at e
 simp only [slices_BinarySearch_int_int, show Int.ofNat ds.length = (ds.length : Int) from rfl, e, Option.bind_some, Int.toNat_natCast]
 by_cases hkl : k < ds.length
 · have hgd : ds.getD k (0 : Int) = ds[k] := by simp [hkl]
   rw [inR_t (by omega) (by omega), dec_true (show (k : Int) < (ds.length : Int) by omega), hgd]
   simp only [Bool.true_or, cond_true]
   by_cases hx : ds[k] = x
   · rw [beq_t hx]
     rw [dec_true (show x ∈ ds from hx ▸ List.getElem_mem hkl)]
     exact ⟨_, rfl⟩
   · rw [beq_f hx]
     have hn : ¬ x ∈ ds := by
       intro hm
       obtain ⟨i, hi, rfl⟩ := List.getElem_of_mem hm
       rcases Nat.lt_trichotomy i k with h | h | h
       · have := h1 i hi h; omega
       · subst h; exact hx rfl
       · have a1 := h2 k hkl (Nat.le_refl _)
         have a2 := List.pairwise_iff_getElem.1 hs k i hkl hi h
         omega
     rw [dec_false hn]
     simp only [cond_false, slices_isNaN_int, Option.bind_some, bne_self_eq_false]
     exact ⟨_, rfl⟩
 · have hn : ¬ x ∈ ds := by
     intro hm
     obtain ⟨i, hi, rfl⟩ := List.getElem_of_mem hm
     have := h1 i hi (by omega)
     omega
   rw [dec_false hn, dec_false (show ¬ (k : Int) < (ds.length : Int) by omega)]
   simp only [Bool.not_false, Bool.or_true, cond_true, cond_false, Bool.false_and]
   exact ⟨_, rfl⟩
def okW (w : WL) (s : Int) : Bool := cond (decide ((w.length : Int) > 0)) (hasB s w) true
section
variable {zs : List ZoneT} {ps : List PersonT} {cs : List CalT} {ss : List SchedT} (hz : ∀ z ∈ zs, ZOk z)
include hz
theorem OnV_ok {L : LayerT} (hL : LCk zs.length ps.length cs.length L) (hRt : Rt L) {t : Int} (h0 : 0 ≤ t) (h1 : t ≤ 8589934592) {z : ZoneT} (hzz : zs.getD L.2.1.toNat (ByteArray.empty, ((0 : Int), ([] : List Rule))) = z)
   {s : Int} {d : Int × Int} (hd : zone_Table_Local (tb z) t = some d) (hs : week_SecondOf d = some s) {K : Int} (hK : recur_ShiftOf (tb z) L t = some K) (b : Bool)
   (hcal : L.2.2.2.2.2.2.2.2 = 0 → b = true) (hcal2 : L.2.2.2.2.2.2.2.2 ≠ 0 → ∃ x : CalT, cs.getD L.2.2.2.2.2.2.2.1.toNat (ByteArray.empty, ((0 : Int), ([] : List Int))) = x ∧ CCk zs.length x ∧ ∃ d', zone_Table_Local (tb (zs.getD x.2.1.toNat (ByteArray.empty, ((0 : Int), ([] : List Rule))))) t = some d' ∧ b = (decide (d'.1 ∈ x.2.2) == (L.2.2.2.2.2.2.2.2 == (2 : Int)))) :
   ∃ r, duty_View_On ((zs, (ps, (cs, ss))), zs.map tb) L t = some (r, cond (decide (0 ≤ K)) (cond (okW L.2.2.2.2.2.2.1 s) b false) false) ∧ (cond (decide (0 ≤ K)) (cond (okW L.2.2.2.2.2.2.1 s) b false) false = true → r = K) := by
 have _ := hz; have _ := hRt
 have hwl := hL.wl
 have hlen : (zs.map tb).length = zs.length := List.length_map ..
 have hg := tb_get (zs := zs) hL.z0 hL.z1
 rw [hzz] at hg
 simp only [duty_View_On]
 rw [dec_false (show ¬ t < 0 by omega), dec_false (show ¬ t > 8589934592 by omega), inR_t hL.z0 (by rw [hlen]; exact hL.z1)]
 simp only [cond_false, cond_true, hg]
 rw [show recur_ShiftOf ((tb z).1, (tb z).2) (L.1, L.2.1, (L.2.2.1.1, L.2.2.1.2), L.2.2.2.1, L.2.2.2.2.1, L.2.2.2.2.2.1, L.2.2.2.2.2.2.1, L.2.2.2.2.2.2.2.1, L.2.2.2.2.2.2.2.2) t = _ from hK]
 simp only [Option.bind_some]
 by_cases hk : 0 ≤ K
 · rw [dec_false (show ¬ K < 0 by omega), dec_true hk]
   simp only [cond_false, cond_true, show Int.ofNat L.2.2.2.2.2.2.1.length = (L.2.2.2.2.2.2.1.length : Int) from rfl]
   have tail : ∃ r, (cond (L.2.2.2.2.2.2.2.2 == (0 : Int)) (some (K, true)) (cond (inR L.2.2.2.2.2.2.2.1 cs.length) (cond (inR (cs.getD L.2.2.2.2.2.2.2.1.toNat (ByteArray.empty, ((0 : Int), ([] : List Int)))).2.1 (zs.map tb).length) ((zone_Table_Local ((List.getD (zs.map tb) (cs.getD L.2.2.2.2.2.2.2.1.toNat (ByteArray.empty, ((0 : Int), ([] : List Int)))).2.1.toNat ((0 : Int), ([] : TrL))).1, (List.getD (zs.map tb) (cs.getD L.2.2.2.2.2.2.2.1.toNat (ByteArray.empty, ((0 : Int), ([] : List Int)))).2.1.toNat ((0 : Int), ([] : TrL))).2) t).bind fun r68 =>
       (slices_BinarySearch_int_int (cs.getD L.2.2.2.2.2.2.2.1.toNat (ByteArray.empty, ((0 : Int), ([] : List Int)))).2.2 r68.1).bind fun r70 => some (K, (r70.2 == (L.2.2.2.2.2.2.2.2 == (2 : Int))))) none) none)) = some (r, b) ∧ (b = true → r = K) := by
     by_cases hm : L.2.2.2.2.2.2.2.2 = 0
     · rw [beq_t hm, cond_true, hcal hm]
       exact ⟨K, rfl, fun _ => rfl⟩
     · obtain ⟨x, hx, hxc, d', hd', hb⟩ := hcal2 hm
       have hc := hL.cal hm
       obtain ⟨i, hi⟩ := bs_ok hxc.asc hxc.len d'.1
       have hg2 := tb_get (zs := zs) hxc.z0 hxc.z1
       rw [beq_f hm, cond_false, inR_t hc.1 hc.2, hx, inR_t hxc.z0 (by rw [hlen]; exact hxc.z1)]
       simp only [cond_true, hg2]
       rw [show zone_Table_Local ((tb (zs.getD x.2.1.toNat (ByteArray.empty, ((0 : Int), ([] : List Rule))))).1, (tb (zs.getD x.2.1.toNat (ByteArray.empty, ((0 : Int), ([] : List Rule))))).2) t = _ from hd']
       simp only [Option.bind_some, hi]
       rw [← hb]
       exact ⟨K, rfl, fun _ => rfl⟩
   by_cases hw : (L.2.2.2.2.2.2.1.length : Int) > 0
   · rw [dec_true hw, cond_true, show zone_Table_Local ((tb z).1, (tb z).2) t = _ from hd]
     simp only [Option.bind_some, show week_SecondOf (d.1, d.2) = _ from hs, Has_ok hwl, okW]
     rw [dec_true hw, cond_true]
     cases hh : hasB s L.2.2.2.2.2.2.1 with
     | true =>
       simp only [Bool.not_true, cond_false, cond_true]
       exact tail
     | false => exact ⟨0, rfl, fun h => by simp at h⟩
   · simp only [okW]
     rw [dec_false hw]
     simp only [cond_false, cond_true]
     exact tail
 · rw [dec_true (show K < 0 by omega), dec_false hk]
   exact ⟨0, rfl, fun h => by simp at h⟩
def whoL (L : LayerT) (K : Int) : Int := L.2.2.2.2.2.1.getD (Int.tmod K (L.2.2.2.2.2.1.length : Int)).toNat 0
omit hz in
theorem PersV_ok {v : CfgT × List (Int × TrL)} {L : LayerT} {t r K : Int} {b : Bool} (hm : L.2.2.2.2.2.1.length ≠ 0) (e : duty_View_On v L t = some (r, b)) (hr : b = true → r = K) (hK : b = true → 0 ≤ K) :
   duty_View_Person v L t = some (cond b (whoL L K) (-1)) := by
 simp only [duty_View_Person, show duty_View_On ((v.1.1, v.1.2.1, v.1.2.2.1, v.1.2.2.2), v.2) (L.1, L.2.1, (L.2.2.1.1, L.2.2.1.2), L.2.2.2.1, L.2.2.2.2.1, L.2.2.2.2.2.1, L.2.2.2.2.2.2.1, L.2.2.2.2.2.2.2.1, L.2.2.2.2.2.2.2.2) t = _ from e, Option.bind_some]
 cases b with
 | false => rfl
 | true =>
   have := hr rfl
   subst this
   have hk := hK rfl
   have q1 : 0 ≤ Int.tmod r (L.2.2.2.2.2.1.length : Int) := Int.tmod_nonneg _ hk
   have q2 : Int.tmod r (L.2.2.2.2.2.1.length : Int) < (L.2.2.2.2.2.1.length : Int) := Int.tmod_lt_of_pos _ (by omega)
   simp only [Bool.not_true, cond_false, cond_true, show Int.ofNat L.2.2.2.2.2.1.length = (L.2.2.2.2.2.1.length : Int) from rfl, whoL]
   rw [beq_f (show ¬ (L.2.2.2.2.2.1.length : Int) = 0 by omega), inR_t q1 q2]
   rfl
end
theorem LCk.rt {nz np nc : Nat} {L : LayerT} (h : LCk nz np nc L) (hd : L.2.2.1.1 ≤ 100000) : Rt L :=
 ⟨h.d0, hd, h.c0, h.c1, h.u0, h.u1, h.e0, h.e1, fun hn => h.m0 (by rw [hn]; rfl)⟩
theorem sec_ok {z : ZoneT} (hz : ZOk z) {t : Int} (h0 : 0 ≤ t) (h1 : t ≤ 8589934592) : ∃ d s, zone_Table_Local (tb z) t = some d ∧ week_SecondOf d = some s := by
 have ht := hz.ztab
 obtain ⟨j, hj, j1, j2⟩ := ex_piece ht.2 h0 h1
 have o0 := ht.2.of0 j hj; have o1 := ht.2.of1 j hj
 obtain ⟨s, hs⟩ : ∃ s, week_SecondOf ((t + tof z.2.1 (tb z).2 j) / 86400, (t + tof z.2.1 (tb z).2 j) % 86400) = some s := by
   simp only [week_SecondOf, Weekday_eq, Option.bind_some]
   exact ⟨_, rfl⟩
 exact ⟨_, s, Local_ok ht.2 hj j1 j2, hs⟩
end Go.Proofs.Pw
open Go Go.Lft
namespace Go.Proofs.Pw
theorem sane12 : law12_sane = some true := law12_sane_le 60 true (by kernel_rfl)
end Go.Proofs.Pw
open Go Go.Lft
namespace Go.Proofs.Pw
theorem count2241 : civil_count 2241 = some 98981 := by kernel_rfl
theorem count1970 : civil_count 1970 = some 0 := by kernel_rfl
theorem day_le {d : Int} (h : resolve_day d = some true) : d ≤ 100000 := by
 apply Classical.byContradiction
 intro hd
 simp only [resolve_day, civil_DateOf, count1970, count2241, Option.bind_some] at h
 rw [dec_false (show ¬ d < 0 by omega), dec_true (show d ≥ 98981 by omega)] at h
 simp at h
theorem LCk.rt2 {nz np nc : Nat} {L : LayerT} (h : LCk nz np nc L) : Rt L := h.rt (day_le h.day)
section
variable {zs : List ZoneT} {ps : List PersonT} {cs : List CalT} (hs : SOk2 zs ps cs)
include hs
theorem cget {i : Int} (h0 : 0 ≤ i) (h1 : i < (cs.length : Int)) : CCk zs.length (cs.getD i.toNat (ByteArray.empty, ((0 : Int), ([] : List Int)))) := by
 have hi : i.toNat < cs.length := by omega
 rw [show cs.getD i.toNat (ByteArray.empty, ((0 : Int), ([] : List Int))) = cs[i.toNat] by simp [List.getD, hi]]
 exact hs.c.ck _ (List.getElem_mem hi)
theorem vp_ok {L : LayerT} (hL : LCk zs.length ps.length cs.length L) {t : Int} (h0 : 0 ≤ t) (h1 : t ≤ 8589934592) : ∃ p K : Int, (∀ ss : List SchedT, duty_View_Person ((zs, (ps, (cs, ss))), zs.map tb) L t = some p) ∧ (p = -1 ∨ 0 ≤ p ∧ p < ps.length) ∧
   ShO (zs.getD L.2.1.toNat (ByteArray.empty, ((0 : Int), ([] : List Rule)))).2.1 (tb (zs.getD L.2.1.toNat (ByteArray.empty, ((0 : Int), ([] : List Rule))))).2 L t K ∧ (L.2.2.2.2.2.2.1 = [] → L.2.2.2.2.2.2.2.2 = 0 → 0 ≤ K → p = whoL L K) := by
 have hRt := hL.rt2
 have hz := zget hs.so.ok hL.z0 hL.z1
 generalize hzz : zs.getD L.2.1.toNat (ByteArray.empty, ((0 : Int), ([] : List Rule))) = z at *
 obtain ⟨d, s, hd, hsec⟩ := sec_ok hz h0 h1
 obtain ⟨K, eK, hK⟩ := recSh hz.ztab.2 hRt h0 h1
 obtain ⟨b, hb1, hb2⟩ : ∃ b : Bool, (L.2.2.2.2.2.2.2.2 = 0 → b = true) ∧ (L.2.2.2.2.2.2.2.2 ≠ 0 → ∃ x : CalT, cs.getD L.2.2.2.2.2.2.2.1.toNat (ByteArray.empty, ((0 : Int), ([] : List Int))) = x ∧ CCk zs.length x ∧ ∃ d', zone_Table_Local (tb (zs.getD x.2.1.toNat (ByteArray.empty, ((0 : Int), ([] : List Rule))))) t = some d' ∧ b = (decide (d'.1 ∈ x.2.2) == (L.2.2.2.2.2.2.2.2 == (2 : Int)))) := by
   by_cases hm : L.2.2.2.2.2.2.2.2 = 0
   · exact ⟨true, fun _ => rfl, fun h => absurd hm h⟩
   · have hc := hL.cal hm
     have hx := cget hs hc.1 hc.2
     obtain ⟨d', _, hd', _⟩ := sec_ok (zget hs.so.ok hx.z0 hx.z1) h0 h1
     exact ⟨_, fun h => absurd h hm, fun _ => ⟨_, rfl, hx, d', hd', rfl⟩⟩
 refine ⟨cond (cond (decide (0 ≤ K)) (cond (okW L.2.2.2.2.2.2.1 s) b false) false) (whoL L K) (-1), K, fun ss => ?_, ?_, hK, fun hw hm hk => ?_⟩
 · obtain ⟨r, er, hr⟩ := OnV_ok (ps := ps) (ss := ss) hs.so.ok hL hRt h0 h1 hzz hd hsec eK b hb1 hb2
   exact PersV_ok hL.m0 er hr (fun hb => by
     by_cases hk : 0 ≤ K
     · exact hk
     · rw [dec_false hk] at hb; simp at hb)
 · cases hc : cond (decide (0 ≤ K)) (cond (okW L.2.2.2.2.2.2.1 s) b false) false with
   | false => exact .inl rfl
   | true =>
     right
     have hk : 0 ≤ K := by
       by_cases hk : 0 ≤ K
       · exact hk
       · rw [dec_false hk] at hc; simp at hc
     have hm0 := hL.m0
     have q1 : 0 ≤ Int.tmod K (L.2.2.2.2.2.1.length : Int) := Int.tmod_nonneg _ hk
     have q2 : Int.tmod K (L.2.2.2.2.2.1.length : Int) < (L.2.2.2.2.2.1.length : Int) := Int.tmod_lt_of_pos _ (by omega)
     have hi : (Int.tmod K (L.2.2.2.2.2.1.length : Int)).toNat < L.2.2.2.2.2.1.length := by omega
     have e : whoL L K = L.2.2.2.2.2.1[(Int.tmod K (L.2.2.2.2.2.1.length : Int)).toNat] := by simp [whoL, List.getD, hi]
     rw [cond_true, e]
     exact hL.mem _ (List.getElem_mem hi)
 · rw [hw, hb1 hm, dec_true hk]
   rfl
end
def awayB (es : List EditT) (p t : Int) : Bool := es.any fun x => x.1 == 0 && (x.2.1 == p && (decide (x.2.2.2.1 ≤ t) && decide (t < x.2.2.2.2)))
theorem aw_lp {es : List EditT} {p t : Int} (hl : es.length ≤ 1000) : ∀ (n i : Nat), i + n = es.length → ∃ r, slices_IndexFunc_api_Edit_api_Edit_l0 es p t (es.length : Int) (i : Int) = some r ∧
   match r with
   | .inl k => 0 ≤ k ∧ awayB (es.drop i) p t = true
   | .inr _ => awayB (es.drop i) p t = false
 | 0, i, hi => by
   rw [slices_IndexFunc_api_Edit_api_Edit_l0_eq]
   simp only [slices_IndexFunc_api_Edit_api_Edit_l0_step]
   rw [dec_false (by omega), cond_false, lpK_inr, List.drop_of_length_le (by omega)]
   exact ⟨_, rfl, rfl⟩
 | n + 1, i, hi => by
   have hlt : i < es.length := by omega
   have hgd : es.getD i ((0 : Int), ((0 : Int), ((0 : Int), ((0 : Int), (0 : Int))))) = es[i] := by simp [List.getD, hlt]
   rw [slices_IndexFunc_api_Edit_api_Edit_l0_eq]
   simp only [slices_IndexFunc_api_Edit_api_Edit_l0_step, stack_Away_c1]
   rw [dec_true (by omega), inR_t (by omega) (by omega), w64_in (x := (i : Int) + 1) (by omega) (by omega)]
   simp only [cond_true, Int.toNat_natCast, hgd, Option.bind_some]
   rw [List.drop_eq_getElem_cons hlt]
   have e : (cond (cond (cond (es[i].1 == (0 : Int)) (es[i].2.1 == p) false) (decide (es[i].2.2.2.1 ≤ t)) false) (decide (t < es[i].2.2.2.2)) false) = (es[i].1 == 0 && (es[i].2.1 == p && (decide (es[i].2.2.2.1 ≤ t) && decide (t < es[i].2.2.2.2)))) := by
     cases es[i].1 == (0 : Int) <;> cases es[i].2.1 == p <;> cases decide (es[i].2.2.2.1 ≤ t) <;> rfl
   rw [e]
   have ha : awayB (es[i] :: es.drop (i + 1)) p t = ((es[i].1 == 0 && (es[i].2.1 == p && (decide (es[i].2.2.2.1 ≤ t) && decide (t < es[i].2.2.2.2)))) || awayB (es.drop (i + 1)) p t) := rfl
   rw [ha]
   cases hx : (es[i].1 == 0 && (es[i].2.1 == p && (decide (es[i].2.2.2.1 ≤ t) && decide (t < es[i].2.2.2.2)))) with
   | true =>
     rw [cond_true, lpK_inr]
     exact ⟨_, rfl, by omega, rfl⟩
   | false =>
     rw [cond_false, lpK_inl]
     obtain ⟨r, e1, e2⟩ := aw_lp (es := es) (p := p) (t := t) hl n (i + 1) (by omega)
     exact ⟨r, e1, by simpa using e2⟩
theorem Away_ok {nm : ByteArray} {ls : List LayerT} {es : List EditT} {p t : Int} (hl : es.length ≤ 1000) : stack_Away (nm, (ls, es)) p t = some (awayB es p t) := by
 obtain ⟨r, e1, e2⟩ := aw_lp (p := p) (t := t) hl es.length 0 (by omega)
 simp only [stack_Away, slices_ContainsFunc_api_Edit_api_Edit, slices_IndexFunc_api_Edit_api_Edit, show Int.ofNat es.length = (es.length : Int) from rfl]
 rw [show slices_IndexFunc_api_Edit_api_Edit_l0 es p t (es.length : Int) 0 = _ from e1]
 cases r with
 | inl k =>
   simp only [List.drop_zero] at e2
   simp only [Option.bind_some, sumC_inl, e2.2]
   rw [dec_true (show k ≥ 0 from e2.1)]
 | inr u =>
   simp only [List.drop_zero] at e2
   simp only [Option.bind_some, sumC_inr, e2]
   rfl
def topI (good : Nat → Bool) : Nat → Option Nat
 | 0 => none
 | n + 1 => cond (good n) (some n) (topI good n)
def goodL (es : List EditT) (t : Int) (Pf : Nat → Int) (i : Nat) : Bool := decide (0 ≤ Pf i) && !awayB es (Pf i) t
theorem lof_lp {ls : List LayerT} {zs : List ZoneT} {ps : List PersonT} {cs : List CalT} {ss : List SchedT} {tbs : List (Int × TrL)} {nm : ByteArray} {es : List EditT} {t b6 b7 : Int} {Pf : Nat → Int} (hl : es.length ≤ 1000)
   (hP : ∀ i (h : i < ls.length), duty_View_Person ((zs, (ps, (cs, ss))), tbs) ls[i] t = some (Pf i)) : ∀ n : Nat, n ≤ ls.length →
   stack_LayerOf_l0 (n : Int) ls zs ps cs ss tbs nm ls es t b6 b7 = some (match topI (goodL es t Pf) n with | some i => .inr ((i : Int), Pf i) | none => .inl (b6, b7))
 | 0, hn => by
   rw [stack_LayerOf_l0_eq]
   simp only [stack_LayerOf_l0_step]
   rw [dec_true (by omega), cond_true, lpK_inr]
   rfl
 | n + 1, hn => by
   have hlt : n < ls.length := by omega
   have hgd : ls.getD n (ByteArray.empty, ((0 : Int), (((0 : Int), (0 : Int)), ((0 : Int), ((0 : Int), (([] : List Int), (([] : List (Int × Int)), ((0 : Int), (0 : Int))))))))) = ls[n] := by simp [List.getD, hlt]
   have ih := lof_lp (nm := nm) (b6 := b6) (b7 := b7) hl hP n (by omega)
   have hp := hP n hlt
   rw [stack_LayerOf_l0_eq]
   simp only [stack_LayerOf_l0_step]
   rw [dec_false (by omega), dec_true (show ((n + 1 : Nat) : Int) ≤ Int.ofNat ls.length by simp; omega), show ((n + 1 : Nat) : Int) - 1 = (n : Int) by omega]
   simp only [cond_true, cond_false, Int.toNat_natCast, hgd]
   rw [show duty_View_Person ((zs, (ps, (cs, ss))), tbs) (ls[n].1, (ls[n].2.1, ((ls[n].2.2.1.1, ls[n].2.2.1.2), (ls[n].2.2.2.1, (ls[n].2.2.2.2.1, (ls[n].2.2.2.2.2.1, (ls[n].2.2.2.2.2.2.1, (ls[n].2.2.2.2.2.2.2.1, ls[n].2.2.2.2.2.2.2.2)))))))) t = _ from hp]
   simp only [Option.bind_some, topI, goodL]
   by_cases h0 : 0 ≤ Pf n
   · rw [dec_false (show ¬ Pf n < 0 by omega), dec_true h0]
     simp only [cond_false, Away_ok hl, Option.bind_some, Bool.true_and]
     cases awayB es (Pf n) t with
     | true =>
       simp only [Bool.not_true, cond_false, lpK_inl]
       exact ih
     | false => rfl
   · rw [dec_true (show Pf n < 0 by omega), dec_false h0]
     simp only [cond_true, Bool.false_and, cond_false, lpK_inl]
     exact ih
theorem LayerOf_ok {ls : List LayerT} {zs : List ZoneT} {ps : List PersonT} {cs : List CalT} {ss : List SchedT} {tbs : List (Int × TrL)} {nm : ByteArray} {es : List EditT} {t : Int} {Pf : Nat → Int} (hl : es.length ≤ 1000)
   (hP : ∀ i (h : i < ls.length), duty_View_Person ((zs, (ps, (cs, ss))), tbs) ls[i] t = some (Pf i)) :
   stack_LayerOf ((zs, (ps, (cs, ss))), tbs) (nm, (ls, es)) t = some (match topI (goodL es t Pf) ls.length with | some i => ((i : Int), Pf i) | none => ((-1 : Int), (-1 : Int))) := by
 have lp := lof_lp (nm := nm) (b6 := 0) (b7 := 0) hl hP ls.length (Nat.le_refl _)
 simp only [stack_LayerOf, slices_Backward_api_Layer_api_Layer, Option.bind_some]
 rw [show stack_LayerOf_l0 (Int.ofNat ls.length) ls zs ps cs ss tbs nm ls es t 0 0 = _ from lp]
 cases topI (goodL es t Pf) ls.length with
 | none => rfl
 | some i => rfl
section
variable {zs : List ZoneT} {ps : List PersonT} {cs : List CalT} {ss : List SchedT}
theorem Of_cfg (hz : ∀ z ∈ zs, ZOk z) (hc : CfgOk (zs, (ps, (cs, ss)))) : duty_Of (zs, (ps, (cs, ss))) = some (((zs, (ps, (cs, ss))), zs.map tb), true) := by
 have hzl : zs.length ≤ 16 := hc.zl
 simp only [duty_Of, show resolve_Check (zs, (ps, (cs, ss))) = _ from ResCheck_ok hc, Option.bind_some, bne_self_eq_false, cond_false, view_ok (ps := ps) (cs := cs) (ss := ss) hz (show zs.length ≤ 100 by omega)]
theorem open_cfg (hz : ∀ z ∈ zs, ZOk z) (hc : CfgOk (zs, (ps, (cs, ss)))) {i : Nat} (hi : i < ss.length) : stack_open (zs, (ps, (cs, ss))) (i : Int) = some (((zs, (ps, (cs, ss))), zs.map tb), ss[i], true) := by
 have hgd : ss.getD i (ByteArray.empty, (([] : List LayerT), ([] : List EditT))) = ss[i] := by simp [List.getD, hi]
 simp only [stack_open, Of_cfg hz hc, Option.bind_some, Bool.not_true, cond_false, stack_Index, show Int.ofNat ss.length = (ss.length : Int) from rfl]
 rw [dec_true (show (i : Int) ≥ 0 by omega), dec_true (show (i : Int) < (ss.length : Int) by omega), inR_t (by omega) (by omega)]
 simp only [cond_true, Bool.not_true, cond_false, Int.toNat_natCast, hgd]
def topP (es : List EditT) (t : Int) (Pf : Nat → Int) (n : Nat) : Int := match topI (goodL es t Pf) n with
 | some i => Pf i
 | none => -1
def topN (es : List EditT) (t : Int) (Pf : Nat → Int) (n : Nat) : Int := match topI (goodL es t Pf) n with
 | some i => i
 | none => -1
theorem Who_cfg (hz : ∀ z ∈ zs, ZOk z) (hc : CfgOk (zs, (ps, (cs, ss)))) {i : Nat} (hi : i < ss.length) {t : Int} {Pf : Nat → Int}
   (hP : ∀ k (h : k < ss[i].2.1.length), duty_View_Person ((zs, (ps, (cs, ss))), zs.map tb) ss[i].2.1[k] t = some (Pf k)) :
   stack_Who (zs, (ps, (cs, ss))) (i : Int) t = some (topP ss[i].2.2 t Pf ss[i].2.1.length) ∧ stack_Layer (zs, (ps, (cs, ss))) (i : Int) t = some (topN ss[i].2.2 t Pf ss[i].2.1.length) := by
 have hel := (hc.sc ss[i] (List.getElem_mem hi)).el
 have ho := open_cfg hz hc hi
 have hL := LayerOf_ok (nm := ss[i].1) (es := ss[i].2.2) (by omega) hP
 constructor
 · simp only [stack_Who, ho, Option.bind_some, Bool.not_true, cond_false]
   rw [show stack_LayerOf ((zs, (ps, (cs, ss))), zs.map tb) (ss[i].1, (ss[i].2.1, ss[i].2.2)) t = _ from hL]
   simp only [Option.bind_some, topP]
   cases topI (goodL ss[i].2.2 t Pf) ss[i].2.1.length <;> rfl
 · simp only [stack_Layer, ho, Option.bind_some, Bool.not_true, cond_false]
   rw [show stack_LayerOf ((zs, (ps, (cs, ss))), zs.map tb) (ss[i].1, (ss[i].2.1, ss[i].2.2)) t = _ from hL]
   simp only [Option.bind_some, topN]
   cases topI (goodL ss[i].2.2 t Pf) ss[i].2.1.length <;> rfl
end
end Go.Proofs.Pw
open Go Go.Lft
namespace Go.Proofs.Pw
def nms3 : List ByteArray := [(ByteArray.mk #[102, 105, 114, 115, 116]), (ByteArray.mk #[115, 101, 99, 111, 110, 100]), (ByteArray.mk #[116, 104, 105, 114, 100])]
theorem nms3_ok : NmL nms3 := by
 refine ⟨by decide, fun k hk => ?_⟩
 simp only [nms3, List.mem_cons, List.not_mem_nil, or_false] at hk
 rcases hk with rfl | rfl | rfl <;> exact lexer_Name_le 60 _ true (by kernel_rfl)
structure SG (nz np nc : Nat) (s : SchedT) : Prop where
 ck : SCk nz np nc s
 nm : s.2.1.map (·.1) = nmsL.take s.2.1.length
 ll : s.2.1.length ≤ 3
 el : s.2.2.length ≤ 3
theorem CfN_l0 {L : List Int} {zs : List ZoneT} {ps : List PersonT} {cs : List CalT} (hs : SOk zs ps cs) : ∀ (n : Nat) (a : Int) (ss : List SchedT), DOk L a → ss.length + n ≤ 3 → ss.map (·.1) = nms3.take ss.length → (∀ s ∈ ss, SG zs.length ps.length cs.length s) →
   ∃ ss' a', made_Dice_Config_l0 (n : Int) L a zs ps cs ss = some (L, a', zs, ps, cs, ss') ∧ ss'.length = ss.length + n ∧ ss'.map (·.1) = nms3.take ss'.length ∧ (∀ s ∈ ss', SG zs.length ps.length cs.length s) ∧ DOk L a'
 | 0, a, ss, hd, hl, hn, hg => by
   rw [made_Dice_Config_l0_eq]
   simp only [made_Dice_Config_l0_step]
   rw [dec_false (by omega), cond_false, lpK_inr]
   exact ⟨ss, a, rfl, rfl, hn, hg, hd⟩
 | n + 1, a, ss, hd, hl, hn, hg => by
   have hlt : ss.length < nms3.length := by show ss.length < 3; omega
   have hmod : Int.tmod (Int.ofNat ss.length) 3 = (ss.length : Int) := by
     have : Int.tmod (ss.length : Int) 3 = (ss.length : Int) := Int.tmod_eq_of_lt (by omega) (by omega)
     exact this
   obtain ⟨k, a3, e3, k0, k1, d3⟩ := Next_ok (n := 4) hd (by omega) (by omega)
   obtain ⟨ls, a4, e4, l4, lk, ln, d4⟩ := Cf_l2 (s6 := ((n + 1 : Nat) : Int)) (nm := List.getD nms3 ss.length ByteArray.empty) (ss := ss) hs k.toNat a3 [] d3 (by simp; omega) (by simp) rfl
   obtain ⟨m, a5, e5, m0, m1, d5⟩ := Next_ok (n := 4) d4 (by omega) (by omega)
   obtain ⟨es, a6, e6, l6, ek, d6⟩ := Cf_l4 (s6 := ((n + 1 : Nat) : Int)) (nm := List.getD nms3 ss.length ByteArray.empty) (zs := zs) (cs := cs) (ss := ss) (ls := ls) hs m.toNat a5 [] d5 (by simp; omega) (by simp)
   rw [show ((k.toNat : Nat) : Int) = k by omega] at e4
   rw [show ((m.toNat : Nat) : Int) = m by omega] at e6
   have hnew : SG zs.length ps.length cs.length (List.getD nms3 ss.length ByteArray.empty, (ls, es)) :=
     ⟨⟨by dsimp only; rw [ln]; exact nmsL_ok.take _, lk, by dsimp only; omega, ek, by dsimp only; omega⟩, ln, l4, l6⟩
   obtain ⟨ss', a', e', h1, h2, h3, h4⟩ := CfN_l0 hs n a6 (ss ++ [(List.getD nms3 ss.length ByteArray.empty, (ls, es))]) d6 (by simp; omega) (by
     rw [List.map_append, hn, List.length_append]
     exact take_nm hlt) (fun s h => by
     rcases List.mem_append.1 h with h | h
     · exact hg s h
     · simp at h; subst h; exact hnew)
   rw [made_Dice_Config_l0_eq]
   simp only [made_Dice_Config_l0_step]
   rw [dec_true (show ((n + 1 : Nat) : Int) > 0 by omega), hmod, inR_t (by omega) (by show (ss.length : Int) < (3 : Nat); omega)]
   simp only [cond_true, Int.toNat_natCast, e3, Option.bind_some]
   rw [show made_Dice_Config_l2 ((n + 1 : Nat) : Int) k L a3 zs ps cs (List.getD [(ByteArray.mk #[102, 105, 114, 115, 116]), (ByteArray.mk #[115, 101, 99, 111, 110, 100]), (ByteArray.mk #[116, 104, 105, 114, 100])] ss.length ByteArray.empty) ss [] = _ from e4]
   simp only [Option.bind_some, e5, e6]
   rw [dec_true (by simp [sizeMax]; omega), w64_in (by omega) (by omega), show ((n + 1 : Nat) : Int) - 1 = (n : Int) by omega]
   simp only [cond_true, lpK_inl]
   exact ⟨ss', a', e', by rw [h1]; simp; omega, h2, h3, h4⟩
theorem ConfigN_ok {L : List Int} {a n : Int} (h : DOk L a) (n0 : 1 ≤ n) (n1 : n ≤ 3) : ∃ zs ps cs ss a', made_Dice_Config L a n = some ((zs, (ps, (cs, ss))), L, a') ∧ SOk2 zs ps cs ∧ 1 ≤ ss.length ∧ (ss.length : Int) ≤ n ∧ ss.map (·.1) = nms3.take ss.length ∧ (∀ s ∈ ss, SG zs.length ps.length cs.length s) ∧ DOk L a' := by
 obtain ⟨zs, ps, cs, a1, e1, hs, d1⟩ := Staff2_ok h
 obtain ⟨x, a2, e2, x0, x1, d2⟩ := Next_ok (n := n) d1 (by omega) (by omega)
 obtain ⟨ss, a3, e3, h1, h2, h3, d3⟩ := CfN_l0 hs.so (1 + x).toNat a2 [] d2 (by simp; omega) (by simp) (by simp)
 rw [show (((1 + x).toNat : Nat) : Int) = 1 + x by omega] at e3
 simp at h1
 simp only [made_Dice_Config, e1, e2, Option.bind_some]
 rw [w64_in (x := 1 + x) (by omega) (by omega)]
 simp only [e3, Option.bind_some]
 exact ⟨zs, ps, cs, ss, a3, rfl, hs, by omega, by omega, h2, h3, d3⟩
theorem cfgN_of {zs : List ZoneT} {ps : List PersonT} {cs : List CalT} {ss : List SchedT} (hs : SOk2 zs ps cs) (h0 : ss.length ≤ 12) (h1 : NmL (ss.map (·.1))) (h2 : ∀ s ∈ ss, SCk zs.length ps.length cs.length s) : CfgOk (zs, (ps, (cs, ss))) := cfg_of hs h0 h1 h2
theorem cp_lp {zs z' : List ZoneT} {ps p' : List PersonT} {cs c' : List CalT} {ss : List SchedT} (hl : ss.length ≤ 100) (hb : ∀ s ∈ ss, s.2.1.length ≤ 1000 ∧ s.2.2.length ≤ 1000) : ∀ (n i : Nat), i + n = ss.length →
   made_Copy_l0 (i : Int) zs ps cs ss z' p' c' (ss.take i) = some (z', p', c', ss)
 | 0, i, hi => by
   rw [made_Copy_l0_eq]
   simp only [made_Copy_l0_step, show Int.ofNat ss.length = (ss.length : Int) from rfl]
   rw [dec_false (by omega), cond_false, lpK_inr, List.take_of_length_le (by omega)]
 | n + 1, i, hi => by
   have hlt : i < ss.length := by omega
   have hgd : ss.getD i (ByteArray.empty, (([] : List LayerT), ([] : List EditT))) = ss[i] := by simp [List.getD, hlt]
   obtain ⟨b1, b2⟩ := hb ss[i] (List.getElem_mem hlt)
   rw [made_Copy_l0_eq]
   simp only [made_Copy_l0_step, show Int.ofNat ss.length = (ss.length : Int) from rfl]
   rw [dec_true (by omega), inR_t (by omega) (by omega)]
   simp only [cond_true, Int.toNat_natCast, hgd]
   rw [dec_true (by simp [sizeMax]; omega), dec_true (by simp [sizeMax]; omega), dec_true (by simp [sizeMax]; omega), w64_in (by omega) (by omega)]
   simp only [cond_true, List.nil_append, lpK_inl]
   have := cp_lp (zs := zs) (z' := z') (ps := ps) (p' := p') (cs := cs) (c' := c') hl hb n (i + 1) (by omega)
   rw [List.take_succ_eq_append_getElem hlt] at this
   exact this
theorem Copy_ok {zs : List ZoneT} {ps : List PersonT} {cs : List CalT} {ss : List SchedT} (hz : zs.length ≤ 1000) (hp : ps.length ≤ 1000) (hc : cs.length ≤ 1000) (hl : ss.length ≤ 100) (hb : ∀ s ∈ ss, s.2.1.length ≤ 1000 ∧ s.2.2.length ≤ 1000) :
   made_Copy (zs, (ps, (cs, ss))) = some (zs, ps, cs, ss) := by
 have lp := cp_lp (zs := zs) (z' := zs) (ps := ps) (p' := ps) (cs := cs) (c' := cs) hl hb ss.length 0 (by omega)
 simp only [made_Copy]
 rw [dec_true (by simp [sizeMax]; omega), dec_true (by simp [sizeMax]; omega), dec_true (by simp [sizeMax]; omega)]
 simp only [cond_true, List.nil_append]
 rw [show made_Copy_l0 0 zs ps cs ss zs ps cs [] = _ from lp]
 rfl
end Go.Proofs.Pw
