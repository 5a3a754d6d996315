/- Chapter 11: who is on duty in a layer. -/
import Derived.Test.YtdfbeioppmgheaaGreatPE
import Derived.Test.YtdfbeioppmgheaaGreatPA
import Derived.Test.YtdfbeioppmgheaaGreatFns
open Go Go.Lft
namespace Go.Proofs.Pw
def tb (z : ZoneT) : Int × TrL := (z.2.1, outT z.2.1 (isort (occs z.2.2)))
theorem ZOk.ztab {z : ZoneT} (h : ZOk z) : ZTab z (tb z).2 := MZ.tab (o := z.2.1) (rs := z.2.2) h z.1
theorem tabs_lp {zs : List ZoneT} (h : ∀ z ∈ zs, ZOk z) (hl : zs.length ≤ 100) : ∀ (n i : Nat), i + n = zs.length → zone_Tables_l0 zs (zs.length : Int) (i : Int) ((zs.take i).map tb) = some (zs.map tb)
 | 0, i, hi => by
   rw [zone_Tables_l0_eq]
   simp only [zone_Tables_l0_step]
   rw [dec_false (by omega), cond_false, lpK_inr, List.take_of_length_le (by omega)]
 | n + 1, i, hi => by
   have hlt : i < zs.length := by omega
   have hgd : zs.getD i (ByteArray.empty, ((0 : Int), ([] : List Rule))) = zs[i] := by simp [hlt]
   have ht := Of_ok (h zs[i] (List.getElem_mem hlt)).ztab
   have ih := tabs_lp h hl n (i + 1) (by omega)
   rw [List.take_add_one, List.getElem?_eq_getElem hlt, List.map_append] at ih
   rw [zone_Tables_l0_eq]
   simp only [zone_Tables_l0_step]
   rw [dec_true (by omega), inR_t (by omega) (by omega), w64_in (x := (i : Int) + 1) (by omega) (by omega)]
   simp only [cond_true, Int.toNat_natCast, hgd]
   rw [show zone_Of (zs[i].1, (zs[i].2.1, zs[i].2.2)) = _ from ht]
   simp only [Option.bind_some]
   rw [dec_true (by simp [sizeMax]; omega), cond_true, lpK_inl]
   exact ih
theorem view_ok {zs : List ZoneT} (h : ∀ z ∈ zs, ZOk z) (hl : zs.length ≤ 100) {ps : List PersonT} {cs : List CalT} {ss : List SchedT} : duty_view (zs, (ps, (cs, ss))) = some ((zs, (ps, (cs, ss))), zs.map tb) := by
 have lp := tabs_lp h hl zs.length 0 (by omega)
 simp only [duty_view, zone_Tables, show Int.ofNat zs.length = (zs.length : Int) from rfl]
 rw [show zone_Tables_l0 zs (zs.length : Int) 0 [] = _ from lp]
 rfl
theorem tb_get {zs : List ZoneT} {i : Int} (h0 : 0 ≤ i) (h1 : i < (zs.length : Int)) : List.getD (zs.map tb) i.toNat ((0 : Int), ([] : TrL)) = tb (zs.getD i.toNat (ByteArray.empty, ((0 : Int), ([] : List Rule)))) := by
 have hlt : i.toNat < zs.length := by omega
 simp [List.getD_eq_getElem?_getD, hlt]
theorem zget {zs : List ZoneT} (h : ∀ z ∈ zs, ZOk z) {i : Int} (h0 : 0 ≤ i) (h1 : i < (zs.length : Int)) : ZOk (zs.getD i.toNat (ByteArray.empty, ((0 : Int), ([] : List Rule)))) := by
 have hlt : i.toNat < zs.length := by omega
 rw [List.getD_eq_getElem?_getD, List.getElem?_eq_getElem hlt]
 exact h _ (List.getElem_mem hlt)
theorem less_int (a b : Int) : cmp_Less_int a b = some (decide (a < b)) := by
 simp only [cmp_Less_int, cmp_isNaN_int, Option.bind_some, bne_self_eq_false, cond_false]
theorem bs_lp {ds : List Int} (hs : ds.Pairwise (· < ·)) (hl : ds.length ≤ 64) {x : Int} : ∀ (n a b : Nat), b - a ≤ n → a ≤ b → b ≤ ds.length → (∀ i, (hi : i < ds.length) → i < a → ds[i] < x) → (∀ i, (hi : i < ds.length) → b ≤ i → x ≤ ds[i]) →
   ∃ k : Nat, slices_BinarySearch_int_int_l0 ds x (ds.length : Int) (a : Int) (b : Int) = some (ds, x, (ds.length : Int), (k : Int)) ∧ k ≤ ds.length ∧ (∀ i, (hi : i < ds.length) → i < k → ds[i] < x) ∧ ∀ i, (hi : i < ds.length) → k ≤ i → x ≤ ds[i]
 | n, a, b, hn, hab, hb, h1, h2 => by
   rw [slices_BinarySearch_int_int_l0_eq]
   simp only [slices_BinarySearch_int_int_l0_step]
   by_cases hlt : a < b
   · have hm : IntKind.wrap .u64 ((a : Int) + (b : Int)) = (a : Int) + (b : Int) := IntWalk.u64_in _ ⟨by omega, by omega⟩
     have hd : Int.fdiv ((a : Int) + (b : Int)) 2 = (((a + b) / 2 : Nat) : Int) := by
       rw [Int.fdiv_eq_ediv_of_nonneg _ (by omega)]; omega
     have hml : (a + b) / 2 < ds.length := by omega
     have hgd : ds.getD ((a + b) / 2) (0 : Int) = ds[(a + b) / 2] := by simp [hml]
     rw [dec_true (show (a : Int) < (b : Int) by omega), w64_in (x := (a : Int) + (b : Int)) (by omega) (by omega), hm, hd, w64_in (x := (((a + b) / 2 : Nat) : Int)) (by omega) (by omega), inR_t (by omega) (by omega), w64_in (x := (((a + b) / 2 : Nat) : Int) + 1) (by omega) (by omega)]
     simp only [cond_true, Int.toNat_natCast, hgd, less_int, Option.bind_some]
     cases n with
     | zero => omega
     | succ n =>
       by_cases hc : ds[(a + b) / 2] < x
       · rw [dec_true hc, cond_true, lpK_inl]
         refine bs_lp hs hl n ((a + b) / 2 + 1) b (by omega) (by omega) hb (fun i hi hia => ?_) h2
         by_cases he : i = (a + b) / 2
         · subst he; exact hc
         · exact Int.lt_trans (List.pairwise_iff_getElem.1 hs i ((a + b) / 2) hi hml (by omega)) hc
       · rw [dec_false hc, cond_false, lpK_inl]
         refine bs_lp hs hl n a ((a + b) / 2) (by omega) (by omega) (by omega) h1 (fun i hi hia => ?_)
         by_cases he : i = (a + b) / 2
         · subst he; exact Int.not_lt.1 hc
         · exact Int.le_trans (Int.not_lt.1 hc) (Int.le_of_lt (List.pairwise_iff_getElem.1 hs ((a + b) / 2) i hml hi (by omega)))
   · have : a = b := by omega
     subst this
     rw [dec_false (by omega), cond_false, lpK_inr]
     exact ⟨a, rfl, hb, h1, h2⟩
theorem bs_ok {ds : List Int} (hs : ds.Pairwise (· < ·)) (hl : ds.length ≤ 64) (x : Int) : ∃ i, slices_BinarySearch_int_int ds x = some (i, decide (x ∈ ds)) := by
 obtain ⟨k, e, hk, h1, h2⟩ := bs_lp hs hl (x := x) ds.length 0 ds.length (by omega) (by omega) (Nat.le_refl _) (fun i _ h => by omega) (fun i hi h => by omega)
 rw [show ((0 : Nat) : Int) = 0 from rfl] at e
 simp only [slices_BinarySearch_int_int, show Int.ofNat ds.length = (ds.length : Int) from rfl, e, Option.bind_some, Int.toNat_natCast]
 by_cases hkl : k < ds.length
 · have hgd : ds.getD k (0 : Int) = ds[k] := by simp [hkl]
   rw [inR_t (by omega) (by omega), dec_true (show (k : Int) < (ds.length : Int) by omega), hgd]
   simp only [Bool.true_or, cond_true]
   by_cases hx : ds[k] = x
   · rw [beq_t hx]
     rw [dec_true (show x ∈ ds from hx ▸ List.getElem_mem hkl)]
     exact ⟨_, rfl⟩
   · rw [beq_f hx]
     have hn : ¬ x ∈ ds := by
       intro hm
       obtain ⟨i, hi, rfl⟩ := List.getElem_of_mem hm
       rcases Nat.lt_trichotomy i k with h | h | h
       · have := h1 i hi h; omega
       · subst h; exact hx rfl
       · have a1 := h2 k hkl (Nat.le_refl _)
         have a2 := List.pairwise_iff_getElem.1 hs k i hkl hi h
         omega
     rw [dec_false hn]
     simp only [cond_false, slices_isNaN_int, Option.bind_some, bne_self_eq_false]
     exact ⟨_, rfl⟩
 · have hn : ¬ x ∈ ds := by
     intro hm
     obtain ⟨i, hi, rfl⟩ := List.getElem_of_mem hm
     have := h1 i hi (by omega)
     omega
   rw [dec_false hn, dec_false (show ¬ (k : Int) < (ds.length : Int) by omega)]
   simp only [Bool.not_false, Bool.or_true, cond_true, cond_false, Bool.false_and]
   exact ⟨_, rfl⟩
def okW (w : WL) (s : Int) : Bool := cond (decide ((w.length : Int) > 0)) (hasB s w) true
section
variable {zs : List ZoneT} {ps : List PersonT} {cs : List CalT} {ss : List SchedT} (hz : ∀ z ∈ zs, ZOk z)
include hz
theorem OnV_ok {L : LayerT} (hL : LCk zs.length ps.length cs.length L) (hRt : Rt L) {t : Int} (h0 : 0 ≤ t) (h1 : t ≤ 8589934592) {z : ZoneT} (hzz : zs.getD L.2.1.toNat (ByteArray.empty, ((0 : Int), ([] : List Rule))) = z)
   {s : Int} {d : Int × Int} (hd : zone_Table_Local (tb z) t = some d) (hs : week_SecondOf d = some s) {K : Int} (hK : recur_ShiftOf (tb z) L t = some K) (b : Bool)
   (hcal : L.2.2.2.2.2.2.2.2 = 0 → b = true) (hcal2 : L.2.2.2.2.2.2.2.2 ≠ 0 → ∃ x : CalT, cs.getD L.2.2.2.2.2.2.2.1.toNat (ByteArray.empty, ((0 : Int), ([] : List Int))) = x ∧ CCk zs.length x ∧ ∃ d', zone_Table_Local (tb (zs.getD x.2.1.toNat (ByteArray.empty, ((0 : Int), ([] : List Rule))))) t = some d' ∧ b = (decide (d'.1 ∈ x.2.2) == (L.2.2.2.2.2.2.2.2 == (2 : Int)))) :
   ∃ r, duty_View_On ((zs, (ps, (cs, ss))), zs.map tb) L t = some (r, cond (decide (0 ≤ K)) (cond (okW L.2.2.2.2.2.2.1 s) b false) false) ∧ (cond (decide (0 ≤ K)) (cond (okW L.2.2.2.2.2.2.1 s) b false) false = true → r = K) := by
 have _ := hz; have _ := hRt
 have hwl := hL.wl
 have hlen : (zs.map tb).length = zs.length := List.length_map ..
 have hg := tb_get (zs := zs) hL.z0 hL.z1
 rw [hzz] at hg
 simp only [duty_View_On]
 rw [dec_false (show ¬ t < 0 by omega), dec_false (show ¬ t > 8589934592 by omega), inR_t hL.z0 (by rw [hlen]; exact hL.z1)]
 simp only [cond_false, cond_true, hg]
 rw [show recur_ShiftOf ((tb z).1, (tb z).2) (L.1, L.2.1, (L.2.2.1.1, L.2.2.1.2), L.2.2.2.1, L.2.2.2.2.1, L.2.2.2.2.2.1, L.2.2.2.2.2.2.1, L.2.2.2.2.2.2.2.1, L.2.2.2.2.2.2.2.2) t = _ from hK]
 simp only [Option.bind_some]
 by_cases hk : 0 ≤ K
 · rw [dec_false (show ¬ K < 0 by omega), dec_true hk]
   simp only [cond_false, cond_true, show Int.ofNat L.2.2.2.2.2.2.1.length = (L.2.2.2.2.2.2.1.length : Int) from rfl]
   have tail : ∃ r, (cond (L.2.2.2.2.2.2.2.2 == (0 : Int)) (some (K, true)) (cond (inR L.2.2.2.2.2.2.2.1 cs.length) (cond (inR (cs.getD L.2.2.2.2.2.2.2.1.toNat (ByteArray.empty, ((0 : Int), ([] : List Int)))).2.1 (zs.map tb).length) ((zone_Table_Local ((List.getD (zs.map tb) (cs.getD L.2.2.2.2.2.2.2.1.toNat (ByteArray.empty, ((0 : Int), ([] : List Int)))).2.1.toNat ((0 : Int), ([] : TrL))).1, (List.getD (zs.map tb) (cs.getD L.2.2.2.2.2.2.2.1.toNat (ByteArray.empty, ((0 : Int), ([] : List Int)))).2.1.toNat ((0 : Int), ([] : TrL))).2) t).bind fun r68 =>
       (slices_BinarySearch_int_int (cs.getD L.2.2.2.2.2.2.2.1.toNat (ByteArray.empty, ((0 : Int), ([] : List Int)))).2.2 r68.1).bind fun r70 => some (K, (r70.2 == (L.2.2.2.2.2.2.2.2 == (2 : Int))))) none) none)) = some (r, b) ∧ (b = true → r = K) := by
     by_cases hm : L.2.2.2.2.2.2.2.2 = 0
     · rw [beq_t hm, cond_true, hcal hm]
       exact ⟨K, rfl, fun _ => rfl⟩
     · obtain ⟨x, hx, hxc, d', hd', hb⟩ := hcal2 hm
       have hc := hL.cal hm
       obtain ⟨i, hi⟩ := bs_ok hxc.asc hxc.len d'.1
       have hg2 := tb_get (zs := zs) hxc.z0 hxc.z1
       rw [beq_f hm, cond_false, inR_t hc.1 hc.2, hx, inR_t hxc.z0 (by rw [hlen]; exact hxc.z1)]
       simp only [cond_true, hg2]
       rw [show zone_Table_Local ((tb (zs.getD x.2.1.toNat (ByteArray.empty, ((0 : Int), ([] : List Rule))))).1, (tb (zs.getD x.2.1.toNat (ByteArray.empty, ((0 : Int), ([] : List Rule))))).2) t = _ from hd']
       simp only [Option.bind_some, hi]
       rw [← hb]
       exact ⟨K, rfl, fun _ => rfl⟩
   by_cases hw : (L.2.2.2.2.2.2.1.length : Int) > 0
   · rw [dec_true hw, cond_true, show zone_Table_Local ((tb z).1, (tb z).2) t = _ from hd]
     simp only [Option.bind_some, show week_SecondOf (d.1, d.2) = _ from hs, Has_ok hwl, okW]
     rw [dec_true hw, cond_true]
     cases hh : hasB s L.2.2.2.2.2.2.1 with
     | true =>
       simp only [Bool.not_true, cond_false, cond_true]
       exact tail
     | false => exact ⟨0, rfl, fun h => by simp at h⟩
   · simp only [okW]
     rw [dec_false hw]
     simp only [cond_false, cond_true]
     exact tail
 · rw [dec_true (show K < 0 by omega), dec_false hk]
   exact ⟨0, rfl, fun h => by simp at h⟩
def whoL (L : LayerT) (K : Int) : Int := L.2.2.2.2.2.1.getD (Int.tmod K (L.2.2.2.2.2.1.length : Int)).toNat 0
omit hz in
theorem PersV_ok {v : CfgT × List (Int × TrL)} {L : LayerT} {t r K : Int} {b : Bool} (hm : L.2.2.2.2.2.1.length ≠ 0) (e : duty_View_On v L t = some (r, b)) (hr : b = true → r = K) (hK : b = true → 0 ≤ K) :
   duty_View_Person v L t = some (cond b (whoL L K) (-1)) := by
 simp only [duty_View_Person, show duty_View_On ((v.1.1, v.1.2.1, v.1.2.2.1, v.1.2.2.2), v.2) (L.1, L.2.1, (L.2.2.1.1, L.2.2.1.2), L.2.2.2.1, L.2.2.2.2.1, L.2.2.2.2.2.1, L.2.2.2.2.2.2.1, L.2.2.2.2.2.2.2.1, L.2.2.2.2.2.2.2.2) t = _ from e, Option.bind_some]
 cases b with
 | false => rfl
 | true =>
   have := hr rfl
   subst this
   have hk := hK rfl
   have q1 : 0 ≤ Int.tmod r (L.2.2.2.2.2.1.length : Int) := Int.tmod_nonneg _ hk
   have q2 : Int.tmod r (L.2.2.2.2.2.1.length : Int) < (L.2.2.2.2.2.1.length : Int) := Int.tmod_lt_of_pos _ (by omega)
   simp only [Bool.not_true, cond_false, cond_true, show Int.ofNat L.2.2.2.2.2.1.length = (L.2.2.2.2.2.1.length : Int) from rfl, whoL]
   rw [beq_f (show ¬ (L.2.2.2.2.2.1.length : Int) = 0 by omega), inR_t q1 q2]
   rfl
end
theorem LCk.rt {nz np nc : Nat} {L : LayerT} (h : LCk nz np nc L) (hd : L.2.2.1.1 ≤ 100000) : Rt L :=
 ⟨h.d0, hd, h.c0, h.c1, h.u0, h.u1, h.e0, h.e1, fun hn => h.m0 (by rw [hn]; rfl)⟩
theorem sec_ok {z : ZoneT} (hz : ZOk z) {t : Int} (h0 : 0 ≤ t) (h1 : t ≤ 8589934592) : ∃ d s, zone_Table_Local (tb z) t = some d ∧ week_SecondOf d = some s := by
 have ht := hz.ztab
 obtain ⟨j, hj, j1, j2⟩ := ex_piece ht.2 h0 h1
 have o0 := ht.2.of0 j hj; have o1 := ht.2.of1 j hj
 obtain ⟨s, hs⟩ : ∃ s, week_SecondOf ((t + tof z.2.1 (tb z).2 j) / 86400, (t + tof z.2.1 (tb z).2 j) % 86400) = some s := by
   simp only [week_SecondOf, Weekday_eq, Option.bind_some]
   exact ⟨_, rfl⟩
 exact ⟨_, s, Local_ok ht.2 hj j1 j2, hs⟩
end Go.Proofs.Pw
open Go Go.Lft
namespace Go.Proofs.Pw
abbrev SL := List (Int × Int)
def inS (x : Int) (l : SL) : Prop := ∃ s ∈ l, s.1 ≤ x ∧ x < s.2
def StS (p : Int) : SL → Prop
 | [] => True
 | x :: r => p < x.1 ∧ x.1 < x.2 ∧ StS x.2 r
def Sml (l : SL) : Prop := ∀ s ∈ l, -1000000000000 ≤ s.1 ∧ s.1 ≤ 1000000000000 ∧ -1000000000000 ≤ s.2 ∧ s.2 ≤ 1000000000000
theorem inS_nil {x : Int} : ¬ inS x [] := by rintro ⟨s, hs, _⟩; simp at hs
theorem inS_cons {x : Int} {s : Int × Int} {l : SL} : inS x (s :: l) ↔ (s.1 ≤ x ∧ x < s.2) ∨ inS x l := by
 constructor
 · rintro ⟨u, hu, h⟩
   rcases List.mem_cons.1 hu with rfl | hu
   · exact Or.inl h
   · exact Or.inr ⟨u, hu, h⟩
 · rintro (h | ⟨u, hu, h⟩)
   · exact ⟨s, by simp, h⟩
   · exact ⟨u, by simp [hu], h⟩
theorem inS_app {x : Int} {l r : SL} : inS x (l ++ r) ↔ inS x l ∨ inS x r := by
 constructor
 · rintro ⟨u, hu, h⟩
   rcases List.mem_append.1 hu with hu | hu
   · exact Or.inl ⟨u, hu, h⟩
   · exact Or.inr ⟨u, hu, h⟩
 · rintro (⟨u, hu, h⟩ | ⟨u, hu, h⟩)
   · exact ⟨u, by simp [hu], h⟩
   · exact ⟨u, by simp [hu], h⟩
def nE (s : Int × Int) : Bool := !(decide (s.2 ≤ s.1))
theorem idx_lp {l : SL} (hl : l.length ≤ 1000000) : ∀ (n i : Nat), i + n = l.length → (∀ s ∈ l.take i, nE s = true) →
   (∃ j : Nat, slices_IndexFunc_api_Span_api_Span_l0 (l.length : Int) (i : Int) l = some (.inl ((j : Int), l)) ∧ j < l.length ∧ (∀ s ∈ l.take j, nE s = true) ∧ nE (l.getD j (0, 0)) = false) ∨
   (slices_IndexFunc_api_Span_api_Span_l0 (l.length : Int) (i : Int) l = some (.inr l) ∧ ∀ s ∈ l, nE s = true)
 | 0, i, hi, h => by
   rw [slices_IndexFunc_api_Span_api_Span_l0_eq]
   simp only [slices_IndexFunc_api_Span_api_Span_l0_step]
   rw [dec_false (by omega), cond_false, lpK_inr]
   rw [List.take_of_length_le (by omega)] at h
   exact Or.inr ⟨rfl, h⟩
 | n + 1, i, hi, h => by
   rw [slices_IndexFunc_api_Span_api_Span_l0_eq]
   simp only [slices_IndexFunc_api_Span_api_Span_l0_step, span_Merge_c1]
   rw [dec_true (show (i : Int) < (l.length : Int) by omega), inR_t (by omega) (by omega), w64_in (x := (i : Int) + 1) (by omega) (by omega)]
   simp only [cond_true, Int.toNat_natCast, Option.bind_some]
   have hlt : i < l.length := by omega
   cases hc : decide ((l.getD i ((0 : Int), (0 : Int))).2 ≤ (l.getD i ((0 : Int), (0 : Int))).1) with
   | true =>
     simp only [cond_true, lpK_inr]
     exact Or.inl ⟨i, rfl, hlt, h, by simp only [nE]; rw [hc]; rfl⟩
   | false =>
     simp only [cond_false, lpK_inl]
     refine idx_lp hl n (i + 1) (by omega) fun s hs => ?_
     rw [List.take_add_one] at hs
     rcases List.mem_append.1 hs with hs | hs
     · exact h s hs
     · have hgd : l.getD i ((0 : Int), (0 : Int)) = l[i] := by simp [hlt]
       rw [hgd] at hc
       rw [List.getElem?_eq_getElem hlt] at hs
       simp at hs; subst hs
       simp only [nE]; rw [hc]; rfl
theorem del_lp {l : SL} (hl : l.length ≤ 1000000) : ∀ (n i j : Nat) (b : SL), j + n = l.length → i ≤ j → b.length = l.length → b.drop j = l.drop j → b.take i = (l.take j).filter nE →
   ∃ (k : Nat) (b' : SL), slices_DeleteFunc_api_Span_api_Span_l0 (i : Int) (j : Int) b = some ((k : Int), b') ∧ b'.length = l.length ∧ k ≤ l.length ∧ b'.take k = l.filter nE
 | 0, i, j, b, hj, hij, hb, hd, ht => by
   rw [slices_DeleteFunc_api_Span_api_Span_l0_eq]
   simp only [slices_DeleteFunc_api_Span_api_Span_l0_step, show Int.ofNat (List.length b) = (b.length : Int) from rfl]
   rw [dec_false (by omega), cond_false, lpK_inr]
   rw [List.take_of_length_le (l := l) (by omega)] at ht
   exact ⟨i, b, rfl, hb, by omega, ht⟩
 | n + 1, i, j, b, hj, hij, hb, hd, ht => by
   have hlt : j < l.length := by omega
   have hbj : b.getD j ((0 : Int), (0 : Int)) = l[j] := by
     have : b[j]? = l[j]? := by
       have h := congrArg (fun x => x[0]?) hd
       simpa [List.getElem?_drop] using h
     rw [List.getD_eq_getElem?_getD, this, List.getElem?_eq_getElem hlt]; rfl
   have hd' : b.drop (j + 1) = l.drop (j + 1) := by
     have := congrArg (List.drop 1) hd
     simpa [List.drop_drop] using this
   have htk : l.take (j + 1) = l.take j ++ [l[j]] := by rw [List.take_add_one, List.getElem?_eq_getElem hlt]; rfl
   rw [slices_DeleteFunc_api_Span_api_Span_l0_eq]
   simp only [slices_DeleteFunc_api_Span_api_Span_l0_step, span_Merge_c1, show Int.ofNat (List.length b) = (b.length : Int) from rfl]
   rw [dec_true (show (j : Int) < (b.length : Int) by omega), inR_t (by omega) (by omega), inR_t (by omega) (by omega), w64_in (x := (j : Int) + 1) (by omega) (by omega), w64_in (x := (i : Int) + 1) (by omega) (by omega)]
   simp only [cond_true, Int.toNat_natCast, Option.bind_some, hbj]
   cases hc : decide (l[j].2 ≤ l[j].1) with
   | true =>
     simp only [Bool.not_true, cond_false, lpK_inl]
     refine del_lp hl n i (j + 1) b (by omega) (by omega) hb hd' ?_
     rw [htk, List.filter_append, ht]
     simp [nE, hc]
   | false =>
     simp only [Bool.not_false, cond_true, lpK_inl]
     refine del_lp hl n (i + 1) (j + 1) _ (by omega) (by omega) (by simpa using hb) ?_ ?_
     · rw [List.drop_set_of_lt (by omega)]; exact hd'
     · have hib : i < b.length := by omega
       rw [List.take_add_one, List.take_set_of_le (Nat.le_refl _), List.getElem?_set_self hib, ht, htk, List.filter_append]
       simp [nE, hc]
theorem Delete_ok {l : SL} (hl : l.length ≤ 1000000) : ∃ n m, slices_DeleteFunc_api_Span_api_Span l = some (n, m) ∧ m.take n.toNat = l.filter nE := by
 simp only [slices_DeleteFunc_api_Span_api_Span, slices_IndexFunc_api_Span_api_Span, show Int.ofNat (List.length l) = (l.length : Int) from rfl]
 rcases idx_lp hl l.length 0 (by omega) (by simp) with ⟨j, e, hj, h1, h2⟩ | ⟨e, h⟩
 · rw [show ((0 : Nat) : Int) = 0 from rfl] at e
   rw [e]
   simp only [Option.bind_some, sumC_inl]
   rw [beq_f (by omega), w64_in (x := (j : Int) + 1) (by omega) (by omega)]
   have hgd : l.getD j ((0 : Int), (0 : Int)) = l[j] := by simp [hj]
   rw [hgd] at h2
   obtain ⟨k, b, e2, hb, hk, ht⟩ := del_lp hl (l.length - (j + 1)) j (j + 1) l (by omega) (by omega) rfl rfl (by
     rw [List.take_add_one, List.getElem?_eq_getElem hj, List.filter_append, List.filter_eq_self.2 h1]
     simp [h2])
   rw [show ((j : Int) + 1) = ((j + 1 : Nat) : Int) from rfl, e2]
   simp only [cond_false, Option.bind_some, show Int.ofNat (List.length b) = (b.length : Int) from rfl, Int.toNat_natCast]
   rw [dec_true (show (0 : Int) ≤ (k : Int) by omega), dec_true (show (k : Int) ≤ (b.length : Int) by omega)]
   simp only [Bool.and_self, cond_true, Bool.true_and]
   rw [dec_true (by simp; omega), cond_true]
   refine ⟨_, _, rfl, ?_⟩
   simp only [show (Int.ofNat k).toNat = k from rfl]
   rw [List.take_append_of_le_length (by simp; omega), List.take_take, Nat.min_self, ht]
 · rw [show ((0 : Nat) : Int) = 0 from rfl] at e
   rw [e]
   simp only [Option.bind_some, sumC_inr, beq_self_eq_true, cond_true]
   refine ⟨_, _, rfl, ?_⟩
   simp only [show (Int.ofNat l.length).toNat = l.length from rfl]
   rw [List.take_of_length_le (Nat.le_refl _), List.filter_eq_self.2 h]
def mg1 (e : Int × Int) : SL → SL
 | [] => [e]
 | s :: r => if s.1 ≤ e.2 then mg1 (e.1, if s.2 > e.2 then s.2 else e.2) r else e :: mg1 s r
def mg : SL → SL
 | [] => []
 | s :: r => mg1 s r
theorem mg_lp {L : SL} (hL : L.length ≤ 1000000) : ∀ (n i : Nat) (A : SL) (e : Int × Int), i + n = L.length → A.length < i →
   span_Merge_l0 (L.length : Int) (i : Int) (A ++ [e]) L = some (A ++ mg1 e (L.drop i))
 | 0, i, A, e, hi, hA => by
   rw [span_Merge_l0_eq]
   simp only [span_Merge_l0_step]
   rw [dec_false (by omega), cond_false, lpK_inr, List.drop_of_length_le (by omega)]
   rfl
 | n + 1, i, A, e, hi, hA => by
   have hlt : i < L.length := by omega
   have hgd : L.getD i ((0 : Int), (0 : Int)) = L[i] := by simp [hlt]
   have hle : (A ++ [e]).length = A.length + 1 := by simp
   have hge : (A ++ [e]).getD A.length ((0 : Int), (0 : Int)) = e := by simp
   rw [span_Merge_l0_eq, List.drop_eq_getElem_cons hlt]
   simp only [span_Merge_l0_step, mg1, show Int.ofNat (List.length (A ++ [e])) = ((A.length : Int) + 1) from by rw [hle]; rfl]
   rw [dec_true (show (i : Int) < (L.length : Int) by omega), inR_t (by omega) (by omega), dec_true (show (A.length : Int) + 1 > 0 by omega), w64_in (x := (A.length : Int) + 1 - 1) (by omega) (by omega), w64_in (x := (i : Int) + 1) (by omega) (by omega),
     inR_t (by omega) (by rw [hle]; omega), show ((A.length : Int) + 1 - 1).toNat = A.length by omega]
   simp only [cond_true, Int.toNat_natCast, hgd, hge]
   by_cases hc : L[i].1 ≤ e.2
   · rw [dec_true hc, if_pos hc]
     simp only [cond_true, lpK_inl]
     rw [show (A ++ [e]).set A.length (e.1, if L[i].2 > e.2 then L[i].2 else e.2) = A ++ [(e.1, if L[i].2 > e.2 then L[i].2 else e.2)] by
       rw [List.set_append_right _ _ (Nat.le_refl _)]; simp]
     exact mg_lp hL n (i + 1) A _ (by omega) (by omega)
   · rw [dec_false hc, if_neg hc, dec_true (by rw [hle]; simp [sizeMax]; omega)]
     simp only [cond_false, cond_true, lpK_inl]
     have := mg_lp hL n (i + 1) (A ++ [e]) L[i] (by omega) (by rw [hle]; omega)
     rw [show A ++ e :: mg1 L[i] (L.drop (i + 1)) = A ++ [e] ++ mg1 L[i] (L.drop (i + 1)) by simp]
     exact this
theorem mg_ok {L : SL} (hL : L.length ≤ 1000000) : span_Merge_l0 (L.length : Int) 0 [] L = some (mg L) := by
 rw [span_Merge_l0_eq]
 simp only [span_Merge_l0_step]
 cases L with
 | nil => rw [dec_false (by simp), cond_false, lpK_inr]; rfl
 | cons s r =>
   rw [dec_true (show (0 : Int) < ((s :: r).length : Int) by simp only [List.length_cons]; omega), inR_t (by omega) (by simp only [List.length_cons]; omega)]
   simp only [cond_true, show Int.ofNat (List.length ([] : SL)) = 0 from rfl]
   rw [dec_false (show ¬ ((0 : Int) > 0) by omega), cond_false, dec_true (by simp [sizeMax]), w64_in (x := (0 : Int) + 1) (by omega) (by omega)]
   simp only [cond_true, lpK_inl]
   have := mg_lp hL r.length 1 [] s (by simp; omega) (by simp)
   simpa [mg] using this
def Srt : SL → Prop
 | [] => True
 | s :: r => (∀ u ∈ r, s.1 ≤ u.1) ∧ Srt r
theorem mg1_st : ∀ {r : SL} {e : Int × Int} {p : Int}, p < e.1 → e.1 < e.2 → (∀ s ∈ r, nE s = true) → Srt r → StS p (mg1 e r)
 | [], e, p, h1, h2, _, _ => ⟨h1, h2, trivial⟩
 | s :: r, e, p, h1, h2, h3, h4 => by
   simp only [mg1]
   have hs : s.1 < s.2 := by have := h3 s (by simp); simp [nE] at this; omega
   split
   · exact mg1_st (by exact h1) (by dsimp only; split <;> omega) (fun u hu => h3 u (by simp [hu])) h4.2
   · exact ⟨h1, h2, mg1_st (by omega) hs (fun u hu => h3 u (by simp [hu])) h4.2⟩
theorem mg1_in {x : Int} : ∀ {r : SL} {e : Int × Int}, (∀ s ∈ r, e.1 ≤ s.1) → (∀ s ∈ r, nE s = true) → Srt r → (inS x (mg1 e r) ↔ (e.1 ≤ x ∧ x < e.2) ∨ inS x r)
 | [], e, _, _, _ => by simp [mg1, inS]
 | s :: r, e, h1, h3, h4 => by
   have hs : s.1 < s.2 := by have := h3 s (by simp); simp [nE] at this; omega
   have he : e.1 ≤ s.1 := h1 s (by simp)
   simp only [mg1]
   split
   · rw [mg1_in (e := (e.1, if s.2 > e.2 then s.2 else e.2)) (fun u hu => h1 u (by simp [hu])) (fun u hu => h3 u (by simp [hu])) h4.2, inS_cons]
     dsimp only
     constructor
     · rintro (⟨a, b⟩ | h)
       · split at b
         · by_cases hx : x < e.2
           · exact Or.inl ⟨a, hx⟩
           · exact Or.inr (Or.inl ⟨by omega, b⟩)
         · exact Or.inl ⟨a, b⟩
       · exact Or.inr (Or.inr h)
     · rintro (⟨a, b⟩ | ⟨a, b⟩ | h)
       · exact Or.inl ⟨a, by split <;> omega⟩
       · exact Or.inl ⟨by omega, by split <;> omega⟩
       · exact Or.inr h
   · rw [inS_cons, mg1_in h4.1 (fun u hu => h3 u (by simp [hu])) h4.2, inS_cons]
theorem mg1_len : ∀ (r : SL) (e : Int × Int), (mg1 e r).length ≤ r.length + 1
 | [], e => by simp [mg1]
 | s :: r, e => by
   simp only [mg1]
   split
   · have := mg1_len r (e.1, if s.2 > e.2 then s.2 else e.2); simp only [List.length_cons]; omega
   · have := mg1_len r s; simp only [List.length_cons]; omega
theorem mg1_bd {lo hi : Int} : ∀ {r : SL} {e : Int × Int}, (lo ≤ e.1 ∧ e.2 ≤ hi) → (∀ s ∈ r, lo ≤ s.1 ∧ s.2 ≤ hi) → ∀ u ∈ mg1 e r, lo ≤ u.1 ∧ u.2 ≤ hi
 | [], e, h1, h2 => by simp only [mg1]; intro u hu; simp at hu; subst hu; exact h1
 | s :: r, e, h1, h2 => by
   have hs := h2 s (by simp)
   simp only [mg1]
   split
   · exact mg1_bd ⟨h1.1, by dsimp only; split <;> omega⟩ (fun u hu => h2 u (by simp [hu]))
   · intro u hu
     rcases List.mem_cons.1 hu with rfl | hu
     · exact h1
     · exact mg1_bd hs (fun u hu => h2 u (by simp [hu])) u hu
theorem srt_of {L : SL} (h : L.Pairwise (fun x y => ¬ w64 (y.1 - x.1) < 0)) (hb : Sml L) : Srt L := by
 induction L with
 | nil => trivial
 | cons s r ih =>
   rw [List.pairwise_cons] at h
   refine ⟨fun u hu => ?_, ih h.2 (fun v hv => hb v (by simp [hv]))⟩
   have h1 := h.1 u hu
   have h2 := hb s (by simp)
   have h3 := hb u (by simp [hu])
   rw [w64_in (x := u.1 - s.1) (by omega) (by omega)] at h1
   omega
theorem sort_swo : Go.Sort.SWO (Go.Proofs.ltOf fun (x y : Go.Lft.Sml (.pair (.int .i64) (.int .i64))) => (span_Merge_c2 x.1 y.1).getD 0) := by
 refine swo_sub (fun x => x.1.1) (fun x => ?_) _ fun x y => rfl
 have := x.2
 simp only [smallT, Bool.and_eq_true, decide_eq_true_eq] at this
 exact this.1
theorem Sort_ok {l : SL} (hl : l.length ≤ 1000000) (hb : Sml l) : ∃ L, slices_SortFunc_api_Span_api_Span_by_span_Merge_c2 l = some L ∧ L.Perm l ∧ Srt L := by
 obtain ⟨L, e, hp, hs⟩ := sortP_ok (a := .pair (.int .i64) (.int .i64)) (cf := fun x y => (span_Merge_c2 x y).getD 0) sort_swo (xs := l) (fun x hx => by
   have := hb x hx
   simp only [smallT, Bool.and_eq_true, decide_eq_true_eq]
   refine ⟨⟨?_, ?_⟩, ⟨?_, ?_⟩⟩
   · exact Int.le_trans (by decide) this.1
   · exact Int.le_trans this.2.1 (by decide)
   · exact Int.le_trans (by decide) this.2.2.1
   · exact Int.le_trans this.2.2.2 (by decide)) (by show List.length l < _; omega)
 exact ⟨L, e, hp, srt_of hs fun s hm => hb s (hp.mem_iff.1 hm)⟩
theorem Merge_ok {l : SL} (hl : l.length ≤ 1000000) (hb : Sml l) {lo hi : Int} (hlo : ∀ s ∈ l, s.1 < s.2 → lo ≤ s.1 ∧ s.2 ≤ hi) :
   ∃ out, span_Merge l = some out ∧ StS (lo - 1) out ∧ (∀ x, inS x out ↔ inS x l) ∧ out.length ≤ l.length ∧ ∀ u ∈ out, lo ≤ u.1 ∧ u.2 ≤ hi := by
 obtain ⟨n, m, e1, ht⟩ := Delete_ok hl
 have hfl : (l.filter nE).length ≤ l.length := List.length_filter_le _ _
 obtain ⟨L, e2, hp, hs⟩ := Sort_ok (l := l.filter nE) (by omega) (fun s h => hb s (List.mem_filter.1 h).1)
 have hLl : L.length = (l.filter nE).length := hp.length_eq
 have hLm : ∀ s, s ∈ L ↔ s ∈ l ∧ nE s = true := fun s => hp.mem_iff.trans List.mem_filter
 have hLx : ∀ x, inS x L ↔ inS x l := by
   intro x
   constructor
   · rintro ⟨s, h, h2⟩; exact ⟨s, ((hLm s).1 h).1, h2⟩
   · rintro ⟨s, h, h2⟩; exact ⟨s, (hLm s).2 ⟨h, by simp only [nE]; rw [dec_false (by omega)]; rfl⟩, h2⟩
 have hne : ∀ s ∈ L, s.1 < s.2 := fun s h => by have := ((hLm s).1 h).2; simp [nE] at this; omega
 refine ⟨mg L, ?_, ?_⟩
 · simp only [span_Merge, slices_Clone_api_Span_api_Span]
   rw [dec_true (by simp [sizeMax]; omega)]
   simp only [cond_true, Option.bind_some, List.nil_append, e1, ht, e2, show Int.ofNat (List.length L) = (L.length : Int) from rfl, mg_ok (L := L) (by omega)]
 · cases L with
   | nil =>
     refine ⟨trivial, fun x => hLx x, by simp [mg], by simp [mg]⟩
   | cons s r =>
     have h0 := hlo s ((hLm s).1 (by simp)).1 (hne s (by simp))
     have hr : ∀ u ∈ r, nE u = true := fun u hu => ((hLm u).1 (by simp [hu])).2
     refine ⟨mg1_st (by omega) (hne s (by simp)) hr hs.2, fun x => ?_, ?_, ?_⟩
     · rw [← hLx x, inS_cons]
       exact mg1_in hs.1 hr hs.2
     · have := mg1_len r s
       simp only [mg, List.length_cons] at *
       omega
     · exact mg1_bd h0 fun u hu => hlo u ((hLm u).1 (by simp [hu])).1 (hne u (by simp [hu]))
end Go.Proofs.Pw
