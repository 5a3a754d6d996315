/- duty.Merge, duty.View.Segments: who is on duty in a range. -/
import Derived.Test.YtdfbeioppmgheaaGreatPH
import Derived.Test.YtdfbeioppmgheaaGreatPE
import Derived.Test.YtdfbeioppmgheaaGreatPG
open Go Go.Lft
namespace Go.Proofs.Pw
theorem set_last (l : SgL) (x y : SgT) : (l ++ [x]).set l.length y = l ++ [y] := by
 rw [List.set_append_right _ _ (Nat.le_refl _)]; simp
theorem mgA_len (out : SgL) (s : SgT) : (mgA out s).length ≤ out.length + 1 := by
 unfold mgA
 split
 · omega
 · rcases List.eq_nil_or_concat out with rfl | ⟨l, u, rfl⟩
   · simp
   · rw [List.concat_eq_append, List.getLast?_append]
     simp only [List.getLast?_singleton, Option.some_or]
     split
     · simp
     · simp
theorem mgL_len : ∀ (l out : SgL), (l.foldl mgA out).length ≤ out.length + l.length
 | [], out => by simp
 | s :: r, out => by
   have := mgL_len r (mgA out s)
   have := mgA_len out s
   simp only [List.foldl_cons, List.length_cons]; omega
theorem dM_lp {l : SgL} (hl : l.length ≤ 1000000000) : ∀ (n i : Nat) (out : SgL), i + n = l.length → out.length ≤ i → duty_Merge_l0 l (l.length : Int) (i : Int) out = some ((l.drop i).foldl mgA out)
 | 0, i, out, hi, ho => by
   rw [duty_Merge_l0_eq]
   simp only [duty_Merge_l0_step]
   rw [dec_false (by omega), cond_false, lpK_inr, List.drop_of_length_le (by omega)]
   rfl
 | n + 1, i, out, hi, ho => by
   have hi' : i < l.length := by omega
   have hgd : l.getD i ((0 : Int), ((0 : Int), (0 : Int))) = l[i] := by simp [List.getD, hi']
   have ih : ∀ out' : SgL, out' = mgA out l[i] → duty_Merge_l0 l (l.length : Int) ((i : Int) + 1) out' = some ((l.drop i).foldl mgA out) := fun out' he => by
     rw [List.drop_eq_getElem_cons hi', List.foldl_cons, ← he]
     have := mgA_len out l[i]
     exact dM_lp hl n (i + 1) out' (by omega) (by rw [he]; omega)
   rw [duty_Merge_l0_eq]
   simp only [duty_Merge_l0_step]
   rw [dec_true (by omega), inR_t (by omega) (by omega)]
   simp only [cond_true, Int.toNat_natCast, hgd, show Int.ofNat out.length = (out.length : Int) from rfl]
   rw [w64_in (x := (i : Int) + 1) (by omega) (by omega)]
   generalize l[i] = s at *
   by_cases hs : s.2.1 ≤ s.1
   · rw [dec_true hs, cond_true, lpK_inl]
     exact ih _ (by unfold mgA; rw [if_pos hs])
   · rw [dec_false hs, cond_false]
     rcases List.eq_nil_or_concat out with rfl | ⟨o, u, rfl⟩
     · simp only [List.length_nil]
       rw [dec_false (show ¬ ((0 : Nat) : Int) > 0 by omega), cond_false, dec_true (show 0 + [(s.1, (s.2.1, s.2.2))].length ≤ sizeMax by simp [sizeMax]), cond_true, lpK_inl]
       exact ih _ (by unfold mgA; rw [if_neg hs]; rfl)
     · rw [List.concat_eq_append] at ih ho ⊢
       have hol : (o ++ [u]).length = o.length + 1 := by simp
       rw [hol] at ho
       have hg2 : (o ++ [u]).getD o.length ((0 : Int), ((0 : Int), (0 : Int))) = u := by simp [List.getD]
       rw [hol, dec_true (show ((o.length + 1 : Nat) : Int) > 0 by omega), cond_true, w64_in (x := ((o.length + 1 : Nat) : Int) - 1) (by omega) (by omega), show ((o.length + 1 : Nat) : Int) - 1 = (o.length : Int) by omega, inR_t (by omega) (by omega)]
       simp only [cond_true, Int.toNat_natCast, hg2]
       have hmg : mgA (o ++ [u]) s = if u.2.1 = s.1 ∧ u.2.2 = s.2.2 then o ++ [(u.1, (s.2.1, u.2.2))] else (o ++ [u]) ++ [s] := by
         unfold mgA
         rw [if_neg hs, List.getLast?_append]
         simp only [List.getLast?_singleton, Option.some_or, List.dropLast_concat]
       by_cases h1 : u.2.1 = s.1
       · rw [beq_t h1, cond_true]
         by_cases h2 : u.2.2 = s.2.2
         · rw [beq_t h2, cond_true, lpK_inl, set_last]
           exact ih _ (by rw [hmg, if_pos ⟨h1, h2⟩])
         · rw [beq_f h2, cond_false, dec_true (show o.length + 1 + [(s.1, (s.2.1, s.2.2))].length ≤ sizeMax by simp [sizeMax]; omega), cond_true, lpK_inl]
           exact ih _ (by rw [hmg, if_neg (fun h => h2 h.2)])
       · rw [beq_f h1, cond_false, dec_true (show o.length + 1 + [(s.1, (s.2.1, s.2.2))].length ≤ sizeMax by simp [sizeMax]; omega), cond_true, lpK_inl]
         exact ih _ (by rw [hmg, if_neg (fun h => h1 h.1)])
theorem DMerge_ok {l : SgL} (hl : l.length ≤ 1000000000) : duty_Merge l = some (l.foldl mgA []) := by
 simp only [duty_Merge, show Int.ofNat l.length = (l.length : Int) from rfl]
 rw [show duty_Merge_l0 l (l.length : Int) 0 [] = _ from dM_lp hl l.length 0 [] (by omega) (by simp)]
 rfl
theorem DMerge_ch {f : Int → Int} {a b : Int} {l : SgL} (hl : l.length ≤ 1000000000) (h : Ch f b a l) : ∃ out, duty_Merge l = some out ∧ Cov f b none a out ∧ out.length ≤ l.length :=
 ⟨_, DMerge_ok hl, h.cov, by have := mgL_len l []; simpa using this⟩
section
variable {zs : List ZoneT} {ps : List PersonT} {cs : List CalT} (hs : SOk2 zs ps cs)
include hs
theorem sh_mono {L : LayerT} (hL : LCk zs.length ps.length cs.length L) {t u : Int} (h0 : 0 ≤ t) (htu : t ≤ u) (h1 : u ≤ 8589934592) : shK (zAt zs L.2.1) L t ≤ shK (zAt zs L.2.1) L u := by
 have hz := zget hs.so.ok hL.z0 hL.z1
 have a := (shK_ok hz hL.rt2 (t := t) h0 (by omega)).2
 have b := (shK_ok hz hL.rt2 (t := u) (by omega) h1).2
 show shK (zAt zs L.2.1) L t ≤ shK (zAt zs L.2.1) L u
 have a' : ShO (zAt zs L.2.1).2.1 (tb (zAt zs L.2.1)).2 L t (shK (zAt zs L.2.1) L t) := a
 have b' : ShO (zAt zs L.2.1).2.1 (tb (zAt zs L.2.1)).2 L u (shK (zAt zs L.2.1) L u) := b
 generalize shK (zAt zs L.2.1) L t = K at *
 generalize shK (zAt zs L.2.1) L u = K' at *
 rcases a' with ⟨a1, a2⟩ | ⟨a1, ⟨v, hv, hvt⟩, a3⟩ <;> rcases b' with ⟨b1, b2⟩ | ⟨b1, b2, b3⟩
 · omega
 · omega
 · exact absurd (QO.le hz.ztab.2 hL.rt2 a1 ⟨v, hv, by omega⟩) b2
 · apply Classical.byContradiction
   intro hn
   exact b3 (QO.le hz.ztab.2 hL.rt2 (show K' + 1 ≤ K by omega) ⟨v, hv, by omega⟩)
def Cch (z : ZoneT) (L : LayerT) (k nx t : Int) : Prop := t < nx → (∀ u, t ≤ u → u < nx → u ≤ 8589934592 → shK z L u = k) ∧ (nx ≤ 8589934592 → k < shK z L nx)
theorem cch_new {L : LayerT} (hL : LCk zs.length ps.length cs.length L) {t : Int} (h0 : 0 ≤ t) (h1 : t ≤ 8589934592) (hk : 0 ≤ shK (zAt zs L.2.1) L t) {v : Int} {ok : Bool}
   (hv : recur_HandoverOf (tb (zAt zs L.2.1)) L (shK (zAt zs L.2.1) L t + 1) = some (v, ok)) : t < (cond ok v 8589934593) ∧ Cch (zAt zs L.2.1) L (shK (zAt zs L.2.1) L t) (cond ok v 8589934593) t := by
 have hz := zget hs.so.ok hL.z0 hL.z1
 have a := (shK_ok hz hL.rt2 (t := t) h0 h1).2
 have a' : ShO (zAt zs L.2.1).2.1 (tb (zAt zs L.2.1)).2 L t (shK (zAt zs L.2.1) L t) := a
 have hu : ∀ u, t ≤ u → u ≤ 8589934592 → ShO (zAt zs L.2.1).2.1 (tb (zAt zs L.2.1)).2 L u (shK (zAt zs L.2.1) L u) := fun u _ h2 => (shK_ok hz hL.rt2 (t := u) (by omega) h2).2
 generalize hK : shK (zAt zs L.2.1) L t = K at *
 rcases a' with ⟨a1, a2⟩ | ⟨a1, ⟨w, hw, hwt⟩, a3⟩
 · omega
 · have hat := hO_at hz.ztab.2 hL.rt2 a1 hw
   obtain ⟨v', ev, hv'⟩ := recH hz.ztab.2 hL.rt2 (k := K + 1) (by omega) (by omega)
   have := ev.symm.trans hv
   simp only [Option.some.injEq, Prod.mk.injEq] at this
   obtain ⟨rfl, rfl⟩ := this
   cases hh : hO (zs.getD L.2.1.toNat (ByteArray.empty, ((0 : Int), ([] : List Rule)))).2.1 (tb (zs.getD L.2.1.toNat (ByteArray.empty, ((0 : Int), ([] : List Rule))))).2 L (K + 1) with
   | none =>
     simp only [Option.isSome_none, cond_false]
     exact ⟨by omega, fun _ => ⟨fun u h2 h3 h4 => ShO.uniq hz.ztab.2 hL.rt2 (hu u h2 h4) (.inr ⟨a1, ⟨w, hw, by omega⟩, fun ⟨x, hx, _⟩ => by
       have hx' := hh.symm.trans hx
       simp at hx'⟩), fun h => by omega⟩⟩
   | some x =>
     have := hv' x hh
     subst this
     simp only [Option.isSome_some, cond_true]
     refine ⟨?_, fun _ => ⟨fun u h2 h3 h4 => ShO.uniq hz.ztab.2 hL.rt2 (hu u h2 h4) (.inr ⟨a1, ⟨w, hw, by omega⟩, fun ⟨x, hx, hxu⟩ => by
       have hx' := hh.symm.trans hx
       simp only [Option.some.injEq] at hx'
       omega⟩), fun hle => ?_⟩⟩
     rotate_left
     · have hle' : v' ≤ 8589934592 := hle
       have htv : t ≤ v' := by
         apply Classical.byContradiction
         intro hn
         exact a3 ⟨_, hh, by omega⟩
       have b' := hu v' htv hle'
       rcases b' with ⟨b1, b2⟩ | ⟨b1, b2, b3⟩
       · exact absurd (QO.le hz.ztab.2 hL.rt2 (show (0 : Int) ≤ K + 1 by omega) ⟨_, hh, Int.le_refl _⟩) b2
       · apply Classical.byContradiction
         intro hn
         exact b3 (QO.le hz.ztab.2 hL.rt2 (show shK (zAt zs L.2.1) L v' + 1 ≤ K + 1 by omega) ⟨_, hh, Int.le_refl _⟩)
     apply Classical.byContradiction
     intro hn
     exact a3 ⟨_, hh, by omega⟩
theorem who_at {L : LayerT} (hL : LCk zs.length ps.length cs.length L) {k : Int} (hk : 0 ≤ k) : ∃ _ : (Int.tmod k (L.2.2.2.2.2.1.length : Int)).toNat < L.2.2.2.2.2.1.length, 0 ≤ Int.tmod k (L.2.2.2.2.2.1.length : Int) ∧ Int.tmod k (L.2.2.2.2.2.1.length : Int) < (L.2.2.2.2.2.1.length : Int) ∧ L.2.2.2.2.2.1.getD (Int.tmod k (L.2.2.2.2.2.1.length : Int)).toNat 0 = whoL L k := by
 have _ := hs
 have hm0 := hL.m0
 have q1 : 0 ≤ Int.tmod k (L.2.2.2.2.2.1.length : Int) := Int.tmod_nonneg _ hk
 have q2 : Int.tmod k (L.2.2.2.2.2.1.length : Int) < (L.2.2.2.2.2.1.length : Int) := Int.tmod_lt_of_pos _ (by omega)
 exact ⟨by omega, q1, q2, rfl⟩
theorem s2_lp {L : LayerT} (hL : LCk zs.length ps.length cs.length L) {a b e p m j : Int} {sp : SL} (ha : 0 ≤ a) (he : e ≤ 8589934592) {B : Int} (hB : B ≤ 1000000) : ∀ (n : Nat) (t k nx : Int) (acc : SgL), e - t = n → a ≤ t →
   (∀ u, t ≤ u → u < e → onX zs cs L u = true) → Cch (zAt zs L.2.1) L k nx t → Ch (perX zs cs L) t a acc → (t < e → (acc.length : Int) ≤ B + shK (zAt zs L.2.1) L t) →
   (t = e → a < e → (acc.length : Int) ≤ B + 1 + shK (zAt zs L.2.1) L (e - 1)) →
   ∃ k' nx' acc', duty_View_Segments_l2 b t k nx m j L.1 L.2.1 L.2.2.1.1 L.2.2.1.2 L.2.2.2.1 L.2.2.2.2.1 L.2.2.2.2.2.1 L.2.2.2.2.2.2.1 L.2.2.2.2.2.2.2.1 L.2.2.2.2.2.2.2.2 (tb (zAt zs L.2.1)).1 (tb (zAt zs L.2.1)).2 p e acc sp =
     some (b, e, k', nx', m, j, L.1, L.2.1, L.2.2.1.1, L.2.2.1.2, L.2.2.2.1, L.2.2.2.2.1, L.2.2.2.2.2.1, L.2.2.2.2.2.2.1, L.2.2.2.2.2.2.2.1, L.2.2.2.2.2.2.2.2, (tb (zAt zs L.2.1)).1, (tb (zAt zs L.2.1)).2, acc', sp) ∧
     Cch (zAt zs L.2.1) L k' nx' e ∧ Ch (perX zs cs L) e a acc' ∧ (a < e → (acc'.length : Int) ≤ B + 1 + shK (zAt zs L.2.1) L (e - 1))
 | n, t, k, nx, acc, hn, hat, hon, hc, hch, hl, hl2 => by
   have hz := zget hs.so.ok hL.z0 hL.z1
   rw [duty_View_Segments_l2_eq]
   simp only [duty_View_Segments_l2_step]
   by_cases hte : t < e
   · rw [dec_true hte, cond_true]
     have hont := hon t (Int.le_refl _) hte
     obtain ⟨eK, hK⟩ : recur_ShiftOf (tb (zAt zs L.2.1)) L t = some (shK (zAt zs L.2.1) L t) ∧ ShO (zAt zs L.2.1).2.1 (tb (zAt zs L.2.1)).2 L t (shK (zAt zs L.2.1) L t) := shK_ok hz hL.rt2 (t := t) (by omega) (by omega)
     have hk0 : 0 ≤ shK (zAt zs L.2.1) L t := (on_ok hs hL (ss := []) (t := t) (by omega) (by omega)).2.2 hont
     have hkm : shK (zAt zs L.2.1) L t ≤ 2386092 := by
       have hK' : ShO (zAt zs L.2.1).2.1 (tb (zAt zs L.2.1)).2 L t (shK (zAt zs L.2.1) L t) := hK
       rcases hK' with ⟨h1, _⟩ | ⟨h1, ⟨w, hw, _⟩, _⟩
       · omega
       · exact (hO_at hz.ztab.2 hL.rt2 h1 hw).2.2
     obtain ⟨_, q1, q2, q3⟩ := who_at hs hL hk0
     have hm0 := hL.m0
     have hlt := hl hte
     have step : ∀ nx' : Int, t < nx' → Cch (zAt zs L.2.1) L (shK (zAt zs L.2.1) L t) nx' t → ∀ acc' : SgL, acc' = acc ++ [(t, ((if nx' < e then nx' else e), whoL L (shK (zAt zs L.2.1) L t)))] →
         ∃ k'' nx'' acc'', duty_View_Segments_l2 b (if nx' < e then nx' else e) (shK (zAt zs L.2.1) L t) nx' m j L.1 L.2.1 L.2.2.1.1 L.2.2.1.2 L.2.2.2.1 L.2.2.2.2.1 L.2.2.2.2.2.1 L.2.2.2.2.2.2.1 L.2.2.2.2.2.2.2.1 L.2.2.2.2.2.2.2.2 (tb (zAt zs L.2.1)).1 (tb (zAt zs L.2.1)).2 p e acc' sp =
           some (b, e, k'', nx'', m, j, L.1, L.2.1, L.2.2.1.1, L.2.2.1.2, L.2.2.2.1, L.2.2.2.2.1, L.2.2.2.2.2.1, L.2.2.2.2.2.2.1, L.2.2.2.2.2.2.2.1, L.2.2.2.2.2.2.2.2, (tb (zAt zs L.2.1)).1, (tb (zAt zs L.2.1)).2, acc'', sp) ∧
           Cch (zAt zs L.2.1) L k'' nx'' e ∧ Ch (perX zs cs L) e a acc'' ∧ (a < e → (acc''.length : Int) ≤ B + 1 + shK (zAt zs L.2.1) L (e - 1)) := by
       rintro nx' hnx hc' _ rfl
       obtain ⟨t', ht', h1, h2, h3, h4⟩ : ∃ t' : Int, t' = (if nx' < e then nx' else e) ∧ t < t' ∧ t' ≤ e ∧ t' ≤ nx' ∧ (t' < e → t' = nx') := ⟨_, rfl, by split <;> omega, by split <;> omega, by split <;> omega, fun h => by
         by_cases hx : nx' < e
         · rw [if_pos hx]
         · rw [if_neg hx] at h; omega⟩
       rw [← ht']
       refine s2_lp hL ha he hB (e - t').toNat t' (shK (zAt zs L.2.1) L t) nx' _ (by omega) (by omega) (fun u u1 u2 => hon u (by omega) u2) (fun h5 => ⟨fun u u1 u2 u3 => (hc' hnx).1 u (by omega) u2 u3, (hc' hnx).2⟩)
         (hch.snoc (by omega) (fun u u1 u2 => ?_)) (fun hlt' => ?_) (fun heq _ => ?_)
       · unfold perX
         rw [hon u u1 (by omega), (hc' hnx).1 u u1 (by omega) (by omega)]
         rfl
       · have hm := sh_mono hs hL (t := t) (u := t') (by omega) (by omega) (by omega)
         have hne : shK (zAt zs L.2.1) L t < shK (zAt zs L.2.1) L t' := by
           have := h4 hlt'
           subst this
           exact (hc' hnx).2 (by omega)
         simp only [List.length_append, List.length_singleton]
         omega
       · have hm := sh_mono hs hL (t := t) (u := e - 1) (by omega) (by omega) (by omega)
         simp only [List.length_append, List.length_singleton]
         omega
     by_cases htn : t ≥ nx
     · rw [dec_true htn, cond_true]
       rw [show recur_ShiftOf ((tb (zAt zs L.2.1)).1, (tb (zAt zs L.2.1)).2) (L.1, L.2.1, (L.2.2.1.1, L.2.2.1.2), L.2.2.2.1, L.2.2.2.2.1, L.2.2.2.2.2.1, L.2.2.2.2.2.2.1, L.2.2.2.2.2.2.2.1, L.2.2.2.2.2.2.2.2) t = _ from eK]
       simp only [Option.bind_some]
       rw [w64_in (x := shK (zAt zs L.2.1) L t + 1) (by omega) (by omega)]
       obtain ⟨v, ev, _⟩ := recH hz.ztab.2 hL.rt2 (k := shK (zAt zs L.2.1) L t + 1) (by omega) (by omega)
       have hcn := cch_new hs hL (t := t) (by omega) (by omega) hk0 ev
       rw [show recur_HandoverOf ((tb (zAt zs L.2.1)).1, (tb (zAt zs L.2.1)).2) (L.1, L.2.1, (L.2.2.1.1, L.2.2.1.2), L.2.2.2.1, L.2.2.2.2.1, L.2.2.2.2.2.1, L.2.2.2.2.2.2.1, L.2.2.2.2.2.2.2.1, L.2.2.2.2.2.2.2.2) (shK (zAt zs L.2.1) L t + 1) = _ from ev]
       simp only [Option.bind_some, show Int.ofNat L.2.2.2.2.2.1.length = (L.2.2.2.2.2.1.length : Int) from rfl]
       rw [beq_f (show ¬ (L.2.2.2.2.2.1.length : Int) = 0 by omega), inR_t q1 q2]
       have hsz : ∀ x : SgT, acc.length + [x].length ≤ sizeMax := fun x => by simp [sizeMax]; omega
       revert hcn
       generalize (hO (zs.getD L.2.1.toNat (ByteArray.empty, ((0 : Int), ([] : List Rule)))).2.1 (tb (zs.getD L.2.1.toNat (ByteArray.empty, ((0 : Int), ([] : List Rule))))).2 L (shK (zAt zs L.2.1) L t + 1)).isSome = ok
       cases ok with
       | false =>
         intro hcn
         simp only [Bool.not_false, cond_true]
         rw [dec_true (hsz _), cond_true, lpK_inl]
         exact step 8589934593 hcn.1 hcn.2 _ (by rw [q3])
       | true =>
         intro hcn
         simp only [Bool.not_true, Bool.not_false, cond_false, cond_true]
         rw [dec_true (hsz _), cond_true, lpK_inl]
         exact step v hcn.1 hcn.2 _ (by rw [q3])
     · have hk := (hc (by omega)).1 t (Int.le_refl _) (by omega) (by omega)
       subst hk
       rw [dec_false htn, cond_false]
       simp only [show Int.ofNat L.2.2.2.2.2.1.length = (L.2.2.2.2.2.1.length : Int) from rfl]
       rw [beq_f (show ¬ (L.2.2.2.2.2.1.length : Int) = 0 by omega), inR_t q1 q2]
       simp only [Bool.not_false, cond_true]
       rw [dec_true (show acc.length + [_].length ≤ sizeMax by simp [sizeMax]; omega), cond_true, lpK_inl]
       exact step nx (by omega) hc _ (by rw [q3])
   · have hte' : t = e := by omega
     subst hte'
     rw [dec_false hte, cond_false, lpK_inr]
     exact ⟨k, nx, acc, rfl, hc, hch, hl2 rfl⟩
 termination_by n => n
theorem s0_lp {L : LayerT} (hL : LCk zs.length ps.length cs.length L) {a b : Int} (ha : 0 ≤ a) (hb : b ≤ 8589934592) {A : SL} (hA : A.length ≤ 400000) (hA2 : ∀ t, inS t A ↔ a ≤ t ∧ t < b ∧ onX zs cs L t = true)
   {k0 : Int} {N : Nat} (hN : N ≤ 4000000) (hk0 : -1 ≤ k0) (hkN : ∀ t, a ≤ t → t < b → onX zs cs L t = true → k0 ≤ shK (zAt zs L.2.1) L t ∧ shK (zAt zs L.2.1) L t ≤ k0 + N) :
   ∀ (n j : Nat) (t k nx Kc : Int) (acc : SgL), j + n = A.length → a ≤ t → t ≤ b → StS (t - 1) (A.drop j) → (∀ u, t ≤ u → (inS u A ↔ inS u (A.drop j))) → Cch (zAt zs L.2.1) L k nx t → Ch (perX zs cs L) t a acc →
     k0 ≤ Kc → Kc ≤ k0 + N → (∀ u, t ≤ u → inS u A → Kc ≤ shK (zAt zs L.2.1) L u) → (acc.length : Int) ≤ 2 * j + (Kc - k0) →
   ∃ t' acc', duty_View_Segments_l0 b t k nx (A.length : Int) (j : Int) L.1 L.2.1 L.2.2.1.1 L.2.2.1.2 L.2.2.2.1 L.2.2.2.2.1 L.2.2.2.2.2.1 L.2.2.2.2.2.2.1 L.2.2.2.2.2.2.2.1 L.2.2.2.2.2.2.2.2 (tb (zAt zs L.2.1)).1 (tb (zAt zs L.2.1)).2 acc A = some (b, t', acc') ∧
     Ch (perX zs cs L) b a (acc' ++ [(t', (b, -1))]) ∧ acc'.length ≤ 2 * A.length + N
 | 0, j, t, k, nx, Kc, acc, hj, hat, htb, hst, hin, hc, hch, hK1, hK2, hK3, hl => by
   rw [duty_View_Segments_l0_eq]
   simp only [duty_View_Segments_l0_step]
   rw [dec_false (by omega), cond_false, lpK_inr]
   refine ⟨t, acc, rfl, hch.snoc htb (fun u u1 u2 => ?_), by omega⟩
   have : onX zs cs L u = false := by
     cases ho : onX zs cs L u with
     | false => rfl
     | true =>
       have := (hin u u1).1 ((hA2 u).2 ⟨by omega, u2, ho⟩)
       rw [List.drop_of_length_le (by omega)] at this
       exact absurd this inS_nil
   unfold perX
   rw [this]; rfl
 | n + 1, j, t, k, nx, Kc, acc, hj, hat, htb, hst, hin, hc, hch, hK1, hK2, hK3, hl => by
   have hj' : j < A.length := by omega
   have hgd : A.getD j ((0 : Int), (0 : Int)) = A[j] := by simp [List.getD, hj']
   rw [List.drop_eq_getElem_cons hj'] at hst hin
   obtain ⟨s1, s2, s3⟩ := hst
   have hon : ∀ u, A[j].1 ≤ u → u < A[j].2 → inS u A := fun u u1 u2 => (hin u (by omega)).2 (inS_cons.2 (.inl ⟨u1, u2⟩))
   have hp1 := (hA2 A[j].1).1 (hon _ (Int.le_refl _) s2)
   have hp2 := (hA2 (A[j].2 - 1)).1 (hon _ (by omega) (by omega))
   have hKj := hK3 A[j].1 (by omega) (hon _ (Int.le_refl _) s2)
   rw [duty_View_Segments_l0_eq]
   simp only [duty_View_Segments_l0_step]
   rw [dec_true (show (j : Int) < (A.length : Int) by omega), inR_t (by omega) (by omega)]
   simp only [cond_true, Int.toNat_natCast, hgd]
   rw [dec_true (show acc.length + [_].length ≤ sizeMax by simp [sizeMax]; omega), cond_true]
   obtain ⟨k', nx', acc', e2, c2, h2, l2⟩ := s2_lp hs hL (a := a) (b := b) (e := A[j].2) (p := A[j].1) (m := (A.length : Int)) (j := (j : Int)) (sp := A) ha (by omega) (B := 2 * j + 1 - k0) (by omega) (A[j].2 - A[j].1).toNat A[j].1 k nx
     (acc ++ [(t, (A[j].1, -1))]) (by omega) (by omega) (fun u u1 u2 => ((hA2 u).1 (hon u u1 u2)).2.2) (fun h5 => by
       have h6 := hc (by omega)
       exact ⟨fun u u1 u2 u3 => h6.1 u (by omega) u2 u3, h6.2⟩) (hch.snoc (by omega) (fun u u1 u2 => by
       have : onX zs cs L u = false := by
         cases ho : onX zs cs L u with
         | false => rfl
         | true =>
           have := (hin u u1).1 ((hA2 u).2 ⟨by omega, by omega, ho⟩)
           rcases inS_cons.1 this with h | h
           · omega
           · have := StS.low s3 h; omega
       unfold perX
       rw [this]; rfl)) (fun _ => by rw [List.length_append, List.length_singleton]; omega) (fun h => by omega)
   rw [e2]
   simp only [Option.bind_some]
   rw [w64_in (x := (j : Int) + 1) (by omega) (by omega), lpK_inl]
   have hl2 := l2 (by omega)
   have hr := hkN (A[j].2 - 1) (by omega) (by omega) hp2.2.2
   exact s0_lp hL ha hb hA hA2 hN hk0 hkN n (j + 1) A[j].2 k' nx' (shK (zAt zs L.2.1) L (A[j].2 - 1)) acc' (by omega) (by omega) (by omega) (s3.weak (by omega)) (fun u hu => by
     rw [hin u (by omega), inS_cons]
     exact ⟨fun h => by
       rcases h with h | h
       · omega
       · exact h, .inr⟩) c2 h2 hr.1 hr.2 (fun u hu hiu => by
     have := (hA2 u).1 hiu
     exact sh_mono hs hL (by omega) (by omega) (by omega)) (by omega)
theorem VSeg_ok {L : LayerT} (hL : LCk zs.length ps.length cs.length L) {ss : List SchedT} {a b : Int} (ha : 0 ≤ a) (hab : a ≤ b) (hb : b ≤ 8589934592) {M : Nat} (hM : M ≤ 60) (hlen : b - a ≤ 604800 * M)
   {k0 : Int} {N : Nat} (hN : N ≤ 4000000) (hk0 : -1 ≤ k0) (hkN : ∀ t, a ≤ t → t < b → onX zs cs L t = true → k0 ≤ shK (zAt zs L.2.1) L t ∧ shK (zAt zs L.2.1) L t ≤ k0 + N) :
   ∃ out, duty_View_Segments ((zs, (ps, (cs, ss))), zs.map tb) L a b = some out ∧ Cov (perX zs cs L) b none a out ∧
     out.length ≤ 2 * (L.2.2.2.2.2.2.1.length * (M + 1) * 21 + 1 + (if L.2.2.2.2.2.2.2.2 = 0 then 0 else (cAt cs L.2.2.2.2.2.2.2.1).2.2.length * 21)) + N + 1 := by
 have hzl : (zs.map tb).length = zs.length := List.length_map ..
 have hg := tb_get (zs := zs) hL.z0 hL.z1
 obtain ⟨A, e1, s1, s2, s3⟩ := VTimes_ok hs hL (ss := ss) ha hab hb hM hlen
 have hAl : A.length ≤ 400000 := by
   have h1 : L.2.2.2.2.2.2.1.length * (M + 1) ≤ 14 * 61 := Nat.mul_le_mul hL.wl (by omega)
   by_cases hm : L.2.2.2.2.2.2.2.2 = 0
   · rw [if_pos hm] at s3; omega
   · rw [if_neg hm] at s3
     have hx := (cget hs (hL.cal hm).1 (hL.cal hm).2).len
     have h64 : (cAt cs L.2.2.2.2.2.2.2.1).2.2.length ≤ 64 := hx
     omega
 obtain ⟨t', acc, e2, h2, l2⟩ := s0_lp hs hL ha hb hAl s2 hN hk0 hkN A.length 0 a (-1) (-1) k0 [] (by omega) (Int.le_refl _) hab s1 (fun u _ => by simp) (fun h => by omega) rfl (Int.le_refl _) (by omega) (fun u hu hiu => by
   have := (s2 u).1 hiu
   exact (hkN u this.1 this.2.1 this.2.2).1) (by simp)
 obtain ⟨out, e3, h3, l3⟩ := DMerge_ch (l := acc ++ [(t', (b, -1))]) (by rw [List.length_append, List.length_singleton]; omega) h2
 refine ⟨out, ?_, h3, by rw [List.length_append, List.length_singleton] at l3; omega⟩
 simp only [duty_View_Segments]
 rw [inR_t hL.z0 (by rw [hzl]; exact hL.z1)]
 simp only [cond_true, hg]
 rw [show duty_View_Times ((zs, (ps, (cs, ss))), zs.map tb) (L.1, L.2.1, (L.2.2.1.1, L.2.2.1.2), L.2.2.2.1, L.2.2.2.2.1, L.2.2.2.2.2.1, L.2.2.2.2.2.2.1, L.2.2.2.2.2.2.2.1, L.2.2.2.2.2.2.2.2) a b = _ from e1]
 simp only [Option.bind_some, show Int.ofNat A.length = (A.length : Int) from rfl]
 rw [show duty_View_Segments_l0 b a (-1) (-1) (A.length : Int) 0 L.1 L.2.1 L.2.2.1.1 L.2.2.1.2 L.2.2.2.1 L.2.2.2.2.1 L.2.2.2.2.2.1 L.2.2.2.2.2.2.1 L.2.2.2.2.2.2.2.1 L.2.2.2.2.2.2.2.2 (tb (zs.getD L.2.1.toNat (ByteArray.empty, ((0 : Int), ([] : List Rule))))).1 (tb (zs.getD L.2.1.toNat (ByteArray.empty, ((0 : Int), ([] : List Rule))))).2 [] A = _ from e2]
 simp only [Option.bind_some]
 rw [dec_true (show acc.length + [_].length ≤ sizeMax by simp [sizeMax]; omega), cond_true, e3]
 rfl
end
end Go.Proofs.Pw
open Go Go.Lft
namespace Go.Proofs.Pw
section
variable {zs : List ZoneT} {ps : List PersonT} {cs : List CalT} (hs : SOk2 zs ps cs)
include hs
omit hs in
theorem Fst.near {o : Int} {l : TrL} (h : TOk o l) {s t : Int} {k : Nat} (f : Fst o l s t k) (hs : 0 ≤ s) : s - 64800 ≤ t ∧ t ≤ s + 64800 := by
 obtain ⟨p1, p2, p3⟩ := f.piece h
 have hk := f.hk
 have o1 := h.of1 k hk
 have o0 := h.of0 k hk
 have ht := f.ht
 refine ⟨by omega, ?_⟩
 by_cases h0 : k = 0
 · subst h0
   have e0 : frm l 0 = 0 := frm0
   omega
 · obtain ⟨j, rfl⟩ : ∃ j, k = j + 1 := ⟨k - 1, by omega⟩
   have b := f.bef j (by omega)
   have o2 := h.of0 j (by omega)
   omega
theorem sh_rate {L : LayerT} (hL : LCk zs.length ps.length cs.length L) {t u : Int} (h0 : 0 ≤ t) (htu : t ≤ u) (h1 : u ≤ 8589934592) : shK (zAt zs L.2.1) L u ≤ shK (zAt zs L.2.1) L t + (u - t) / 3600 + 8 := by
 have hz := zget hs.so.ok hL.z0 hL.z1
 have hst := hL.rt2.step
 have he0 := hL.rt2.e0; have hc0 := hL.c0; have hd := hL.d0
 have a' : ShO (zAt zs L.2.1).2.1 (tb (zAt zs L.2.1)).2 L t (shK (zAt zs L.2.1) L t) := (shK_ok hz hL.rt2 (t := t) h0 (by omega)).2
 have b' : ShO (zAt zs L.2.1).2.1 (tb (zAt zs L.2.1)).2 L u (shK (zAt zs L.2.1) L u) := (shK_ok hz hL.rt2 (t := u) (by omega) h1).2
 generalize shK (zAt zs L.2.1) L t = K at *
 generalize shK (zAt zs L.2.1) L u = K' at *
 have hK : -1 ≤ K := by rcases a' with ⟨h, _⟩ | ⟨h, _⟩ <;> omega
 have hn : ¬ QO (zAt zs L.2.1).2.1 (tb (zAt zs L.2.1)).2 L t (K + 1) := by
   rcases a' with ⟨h, h2⟩ | ⟨_, _, h2⟩
   · rw [h]; exact h2
   · exact h2
 by_cases hKK : K' ≤ K + 1
 · omega
 · rcases b' with ⟨h, _⟩ | ⟨hK0, ⟨v, hv, hvu⟩, _⟩
   · omega
   · obtain ⟨w, hw, hwu⟩ : QO (zAt zs L.2.1).2.1 (tb (zAt zs L.2.1)).2 L u (K + 1) := QO.le hz.ztab.2 hL.rt2 (show K + 1 ≤ K' by omega) ⟨v, hv, hvu⟩
     have hwt : t < w := by
       apply Classical.byContradiction
       intro hx
       exact hn ⟨w, hw, by omega⟩
     have hm : 3600 * (K' - (K + 1)) ≤ 3600 * L.2.2.2.2.1 * (K' - (K + 1)) := Int.mul_le_mul_of_nonneg_right (by omega) (by omega)
     by_cases hu : L.2.2.2.1 = 0
     · unfold hO at hv hw
       rw [if_pos hu] at hv hw
       cases hf : fO (zAt zs L.2.1).2.1 (tb (zAt zs L.2.1)).2 (sLoc L 0) with
       | none => rw [hf] at hv; simp at hv
       | some x =>
         rw [hf] at hv hw
         simp only [Option.bind_some] at hv hw
         split at hv
         · split at hw
           · simp only [Option.some.injEq] at hv hw
             have e : 3600 * L.2.2.2.2.1 * (K' - (K + 1)) = 3600 * L.2.2.2.2.1 * K' - 3600 * L.2.2.2.2.1 * (K + 1) := Int.mul_sub ..
             omega
           · simp at hw
         · simp at hv
     · unfold hO at hv hw
       rw [if_neg hu] at hv hw
       obtain ⟨k1, f1⟩ := fO_ex hv
       obtain ⟨k2, f2⟩ := fO_ex hw
       have e : (K' - (K + 1)) * stepD L = K' * stepD L - (K + 1) * stepD L := Int.sub_mul ..
       have hm2 : (K' - (K + 1)) * 1 ≤ (K' - (K + 1)) * stepD L := Int.mul_le_mul_of_nonneg_left hst.1 (by omega)
       have hm3 : 0 ≤ (K + 1) * stepD L := Int.mul_nonneg (by omega) (by omega)
       have g1 := f1.near hz.ztab.2 (by unfold sLoc; omega)
       have g2 := f2.near hz.ztab.2 (by unfold sLoc; omega)
       unfold sLoc at g1 g2
       omega
theorem sh_spread {L : LayerT} (hL : LCk zs.length ps.length cs.length L) {a b : Int} (ha : 0 ≤ a) (hb : b ≤ 8589934592) : ∀ t, a ≤ t → t < b → onX zs cs L t = true → shK (zAt zs L.2.1) L a ≤ shK (zAt zs L.2.1) L t ∧ shK (zAt zs L.2.1) L t ≤ shK (zAt zs L.2.1) L a + (((b - a) / 3600 + 8).toNat : Int) := fun t h1 h2 _ => by
 have e1 := sh_mono hs hL (t := a) (u := t) ha h1 (by omega)
 have e2 := sh_rate hs hL (t := a) (u := t) ha h1 (by omega)
 omega
theorem sh_ge {L : LayerT} (hL : LCk zs.length ps.length cs.length L) {t : Int} (h0 : 0 ≤ t) (h1 : t ≤ 8589934592) : -1 ≤ shK (zAt zs L.2.1) L t := by
 have hz := zget hs.so.ok hL.z0 hL.z1
 have a' : ShO (zAt zs L.2.1).2.1 (tb (zAt zs L.2.1)).2 L t (shK (zAt zs L.2.1) L t) := (shK_ok hz hL.rt2 (t := t) h0 h1).2
 rcases a' with ⟨h, _⟩ | ⟨h, _⟩ <;> omega
theorem VSeg2_ok {L : LayerT} (hL : LCk zs.length ps.length cs.length L) {ss : List SchedT} {a b : Int} (ha : 0 ≤ a) (hab : a ≤ b) (hb : b ≤ 8589934592) (hlen : b - a ≤ 1209600) :
   ∃ out, duty_View_Segments ((zs, (ps, (cs, ss))), zs.map tb) L a b = some out ∧ Cov (perX zs cs L) b none a out ∧ out.length ≤ 5000 := by
 obtain ⟨out, e, h1, h2⟩ := VSeg_ok hs hL (ss := ss) ha hab hb (M := 2) (by omega) (by omega) (N := ((b - a) / 3600 + 8).toNat) (by omega) (sh_ge hs hL ha (by omega)) (sh_spread hs hL ha hb)
 refine ⟨out, e, h1, ?_⟩
 have hw : L.2.2.2.2.2.2.1.length * (2 + 1) * 21 ≤ 14 * 3 * 21 := Nat.mul_le_mul_right _ (Nat.mul_le_mul_right _ hL.wl)
 have hc : (if L.2.2.2.2.2.2.2.2 = 0 then 0 else (cAt cs L.2.2.2.2.2.2.2.1).2.2.length * 21) ≤ 64 * 21 := by
   by_cases hm : L.2.2.2.2.2.2.2.2 = 0
   · rw [if_pos hm]; omega
   · rw [if_neg hm]
     exact Nat.mul_le_mul_right _ (cget hs (hL.cal hm).1 (hL.cal hm).2).len
 omega
theorem VTimes2_ok {L : LayerT} (hL : LCk zs.length ps.length cs.length L) {ss : List SchedT} {a b : Int} (ha : 0 ≤ a) (hab : a ≤ b) (hb : b ≤ 8589934592) (hlen : b - a ≤ 1209600) :
   ∃ out, duty_View_Times ((zs, (ps, (cs, ss))), zs.map tb) L a b = some out ∧ StS (a - 1) out ∧ (∀ t, inS t out ↔ a ≤ t ∧ t < b ∧ onX zs cs L t = true) ∧ out.length ≤ 4096 := by
 obtain ⟨out, e, h1, h2, h3⟩ := VTimes_ok hs hL (ss := ss) ha hab hb (M := 2) (by omega) (by omega)
 refine ⟨out, e, h1, h2, ?_⟩
 have hw : L.2.2.2.2.2.2.1.length * (2 + 1) * 21 ≤ 14 * 3 * 21 := Nat.mul_le_mul_right _ (Nat.mul_le_mul_right _ hL.wl)
 have hc : (if L.2.2.2.2.2.2.2.2 = 0 then 0 else (cAt cs L.2.2.2.2.2.2.2.1).2.2.length * 21) ≤ 64 * 21 := by
   by_cases hm : L.2.2.2.2.2.2.2.2 = 0
   · rw [if_pos hm]; omega
   · rw [if_neg hm]
     exact Nat.mul_le_mul_right _ (cget hs (hL.cal hm).1 (hL.cal hm).2).len
 omega
section
variable {ss : List SchedT} (g0 : ss.length ≤ 12) (g1 : NmL (ss.map (·.1))) (g2 : ∀ s ∈ ss, SCk zs.length ps.length cs.length s)
 {L : LayerT} (hL : LCk zs.length ps.length cs.length L) (hn : lexer_Name L.1 = some true)
include g0 g1 g2 hL hn
theorem check_ok {a b : Int} (ha : 0 ≤ a) (hab : a ≤ b) (hb : b ≤ 8589934592) (hlen : b - a ≤ 34560000) : duty_check (zs, (ps, (cs, ss))) L a b = some 0 := by
 have hf := fits_ok hs g0 g1 g2 hL hn
 simp only [duty_check]
 rw [show duty_fits (zs, ps, cs, ss) (L.1, L.2.1, (L.2.2.1.1, L.2.2.1.2), L.2.2.2.1, L.2.2.2.2.1, L.2.2.2.2.2.1, L.2.2.2.2.2.2.1, L.2.2.2.2.2.2.2.1, L.2.2.2.2.2.2.2.2) = _ from hf]
 simp only [Option.bind_some, Bool.not_true, cond_false, duty_Range]
 rw [w64_in (x := b - a) (by omega) (by omega), dec_true (show a ≥ 0 by omega), dec_true (show a ≤ 8589934592 by omega), dec_true (show b ≥ a by omega), dec_true hb, dec_true hlen]
 rfl
theorem DSegs_ok {a b : Int} (ha : 0 ≤ a) (hab : a ≤ b) (hb : b ≤ 8589934592) (hlen : b - a ≤ 1209600) :
   ∃ out, duty_Segments (zs, (ps, (cs, ss))) L a b = some (out, 0) ∧ Cov (perX zs cs L) b none a out ∧ out.length ≤ 5000 := by
 obtain ⟨out, e, h1, h2⟩ := VSeg2_ok hs hL (ss := ss) ha hab hb hlen
 have hv := view_ok (ps := ps) (cs := cs) (ss := ss) hs.so.ok (by have := hs.so.z1; omega)
 refine ⟨out, ?_, h1, h2⟩
 simp only [duty_Segments]
 rw [show duty_check (zs, ps, cs, ss) (L.1, L.2.1, (L.2.2.1.1, L.2.2.1.2), L.2.2.2.1, L.2.2.2.2.1, L.2.2.2.2.2.1, L.2.2.2.2.2.2.1, L.2.2.2.2.2.2.2.1, L.2.2.2.2.2.2.2.2) a b = _ from check_ok hs g0 g1 g2 hL hn ha hab hb (by omega)]
 simp only [Option.bind_some, bne_self_eq_false, cond_false, hv]
 rw [show duty_View_Segments ((zs, ps, cs, ss), zs.map tb) (L.1, L.2.1, (L.2.2.1.1, L.2.2.1.2), L.2.2.2.1, L.2.2.2.2.1, L.2.2.2.2.2.1, L.2.2.2.2.2.2.1, L.2.2.2.2.2.2.2.1, L.2.2.2.2.2.2.2.2) a b = _ from e]
 simp only [Option.bind_some, show Int.ofNat out.length = (out.length : Int) from rfl]
 rw [dec_false (by omega), cond_false]
theorem DTimes_ok {a b : Int} (ha : 0 ≤ a) (hab : a ≤ b) (hb : b ≤ 8589934592) (hlen : b - a ≤ 1209600) :
   ∃ out, duty_Times (zs, (ps, (cs, ss))) L a b = some (out, 0) ∧ StS (a - 1) out ∧ (∀ t, inS t out ↔ a ≤ t ∧ t < b ∧ onX zs cs L t = true) ∧ out.length ≤ 4096 := by
 obtain ⟨out, e, h1, h2, h3⟩ := VTimes2_ok hs hL (ss := ss) ha hab hb hlen
 have hv := view_ok (ps := ps) (cs := cs) (ss := ss) hs.so.ok (by have := hs.so.z1; omega)
 refine ⟨out, ?_, h1, h2, h3⟩
 simp only [duty_Times]
 rw [show duty_check (zs, ps, cs, ss) (L.1, L.2.1, (L.2.2.1.1, L.2.2.1.2), L.2.2.2.1, L.2.2.2.2.1, L.2.2.2.2.2.1, L.2.2.2.2.2.2.1, L.2.2.2.2.2.2.2.1, L.2.2.2.2.2.2.2.2) a b = _ from check_ok hs g0 g1 g2 hL hn ha hab hb (by omega)]
 simp only [Option.bind_some, bne_self_eq_false, cond_false, hv]
 rw [show duty_View_Times ((zs, ps, cs, ss), zs.map tb) (L.1, L.2.1, (L.2.2.1.1, L.2.2.1.2), L.2.2.2.1, L.2.2.2.2.1, L.2.2.2.2.2.1, L.2.2.2.2.2.2.1, L.2.2.2.2.2.2.2.1, L.2.2.2.2.2.2.2.2) a b = _ from e]
 simp only [Option.bind_some, show Int.ofNat out.length = (out.length : Int) from rfl]
 rw [dec_false (by omega), cond_false]
theorem DPer_ok {t : Int} (h0 : 0 ≤ t) (h1 : t ≤ 8589934592) : duty_Person (zs, (ps, (cs, ss))) L t = some (perX zs cs L t) ∧ duty_On (zs, (ps, (cs, ss))) L t = some (onX zs cs L t) := by
 obtain ⟨⟨r, er⟩, hp, _⟩ := on_ok hs hL (ss := ss) h0 h1
 have hf := fits_ok hs g0 g1 g2 hL hn
 have hv := view_ok (ps := ps) (cs := cs) (ss := ss) hs.so.ok (by have := hs.so.z1; omega)
 have hf' : duty_fits (zs, ps, cs, ss) (L.1, L.2.1, (L.2.2.1.1, L.2.2.1.2), L.2.2.2.1, L.2.2.2.2.1, L.2.2.2.2.2.1, L.2.2.2.2.2.2.1, L.2.2.2.2.2.2.2.1, L.2.2.2.2.2.2.2.2) = _ := hf
 constructor
 · simp only [duty_Person, hf', Option.bind_some, Bool.not_true, cond_false, hv]
   rw [show duty_View_Person ((zs, ps, cs, ss), zs.map tb) (L.1, L.2.1, (L.2.2.1.1, L.2.2.1.2), L.2.2.2.1, L.2.2.2.2.1, L.2.2.2.2.2.1, L.2.2.2.2.2.2.1, L.2.2.2.2.2.2.2.1, L.2.2.2.2.2.2.2.2) t = _ from hp]
   rfl
 · simp only [duty_On, hf', Option.bind_some, Bool.not_true, cond_false, hv]
   rw [show duty_View_On ((zs, ps, cs, ss), zs.map tb) (L.1, L.2.1, (L.2.2.1.1, L.2.2.1.2), L.2.2.2.1, L.2.2.2.2.1, L.2.2.2.2.2.1, L.2.2.2.2.2.2.1, L.2.2.2.2.2.2.2.1, L.2.2.2.2.2.2.2.2) t = _ from er]
   rfl
end
end
end Go.Proofs.Pw
set_option linter.unusedSectionVars false
open Go Go.Lft
namespace Go.Proofs.Pw
theorem sts_get : ∀ {l : SL} {p : Int}, StS p l → ∀ i, i < l.length → p < (l.getD i (0, 0)).1 ∧ (l.getD i (0, 0)).1 < (l.getD i (0, 0)).2
 | [], _, _, i, hi => by simp at hi
 | x :: r, p, h, 0, _ => ⟨h.1, h.2.1⟩
 | x :: r, p, h, i + 1, hi => by
   have := sts_get h.2.2 i (by simpa using hi)
   have h1 := h.1; have h2 := h.2.1
   refine ⟨?_, this.2⟩
   have e : ((x :: r).getD (i + 1) (0, 0)).1 = (r.getD i (0, 0)).1 := rfl
   rw [e]; omega
theorem sts_gap : ∀ {l : SL} {p : Int}, StS p l → ∀ i j, i < j → j < l.length → (l.getD i (0, 0)).2 < (l.getD j (0, 0)).1
 | [], _, _, i, j, _, hj => by simp at hj
 | x :: r, p, h, 0, j + 1, _, hj => (sts_get h.2.2 j (by simpa using hj)).1
 | x :: r, p, h, i + 1, j + 1, hij, hj => sts_gap h.2.2 i j (by omega) (by simpa using hj)
 | x :: r, p, h, _, 0, hij, _ => by omega
section
variable {l : SL} {p : Int} (h : StS p l) (hp : -1 ≤ p) (hl : l.length ≤ 4096) (hb : ∀ u ∈ l, u.2 ≤ 8589934592)
include h hp hl hb
theorem get_bd (i : Nat) (hi : i < l.length) : (l.getD i (0, 0)).2 ≤ 8589934592 := by
 rw [show l.getD i (0, 0) = l[i] by simp [hi]]
 exact hb _ (List.getElem_mem hi)
theorem V3_lp : ∀ (n i : Nat), i + n = l.length → r03_Valid_l0 l (i : Int) = some (.inr ())
 | 0, i, hi => by
   rw [r03_Valid_l0_eq]
   simp only [r03_Valid_l0_step, show Int.ofNat (List.length l) = (l.length : Int) from rfl]
   rw [dec_false (by omega), cond_false, lpK_inr]
 | n + 1, i, hi => by
   have ih := V3_lp n (i + 1) (by omega)
   have hg := sts_get h i (by omega)
   have hu := get_bd h hp hl hb i (by omega)
   rw [r03_Valid_l0_eq]
   simp only [r03_Valid_l0_step, show Int.ofNat (List.length l) = (l.length : Int) from rfl]
   rw [dec_true (show (i : Int) < (l.length : Int) by omega), inR_t (by omega) (by omega)]
   simp only [cond_true, Int.toNat_natCast]
   rw [dec_false (show ¬ (l.getD i ((0 : Int), (0 : Int))).1 < 0 by omega), dec_false (show ¬ (l.getD i ((0 : Int), (0 : Int))).1 ≥ (l.getD i ((0 : Int), (0 : Int))).2 by omega), dec_false (show ¬ (l.getD i ((0 : Int), (0 : Int))).2 > 8589934592 by omega)]
   rw [w64_in (x := (i : Int) + 1) (by omega) (by omega)]
   simp only [cond_false]
   by_cases h0 : i = 0
   · rw [dec_false (by omega)]
     simp only [cond_false, lpK_inl]
     exact ih
   · obtain ⟨j, rfl⟩ : ∃ j, i = j + 1 := ⟨i - 1, by omega⟩
     have hgap := sts_gap h j (j + 1) (by omega) (by omega)
     rw [dec_true (by omega), w64_in (x := ((j + 1 : Nat) : Int) - 1) (by omega) (by omega), inR_t (by omega) (by omega), show (((j + 1 : Nat) : Int) - 1).toNat = j by omega, dec_false (by omega)]
     simp only [cond_true, cond_false, lpK_inl]
     exact ih
theorem Valid3_ok : r03_Valid l = some true := by
 have := V3_lp h hp hl hb l.length 0 (by omega)
 rw [show ((0 : Nat) : Int) = 0 from rfl] at this
 simp only [r03_Valid, show Int.ofNat (List.length l) = (l.length : Int) from rfl]
 rw [dec_false (by omega), cond_false, this]
 rfl
theorem has_lp (x : Int) : ∀ (n a b : Nat), b - a ≤ n → a ≤ b → b ≤ l.length → (∀ i, i < a → (l.getD i (0, 0)).2 ≤ x) → (∀ i, b ≤ i → i < l.length → x < (l.getD i (0, 0)).2) →
   ∃ k : Nat, r03_has_l0 l x (a : Int) (b : Int) = some (l, x, (k : Int)) ∧ k ≤ l.length ∧ (∀ i, i < k → (l.getD i (0, 0)).2 ≤ x) ∧ (∀ i, k ≤ i → i < l.length → x < (l.getD i (0, 0)).2)
 | 0, a, b, hn, hab, hbl, h1, h2 => by
   rw [r03_has_l0_eq]
   simp only [r03_has_l0_step]
   rw [dec_false (by omega), cond_false, lpK_inr]
   exact ⟨a, rfl, by omega, h1, fun i hi => h2 i (by omega)⟩
 | n + 1, a, b, hn, hab, hbl, h1, h2 => by
   rw [r03_has_l0_eq]
   simp only [r03_has_l0_step]
   by_cases hlt : a < b
   · rw [dec_true (show (a : Int) < (b : Int) by omega), w64_in (x := (a : Int) + (b : Int)) (by omega) (by omega), tdiv_nn (by omega), w64_in (x := ((a : Int) + (b : Int)) / 2) (by omega) (by omega),
       show ((a : Int) + (b : Int)) / 2 = (((a + b) / 2 : Nat) : Int) by omega, inR_t (by omega) (by omega), w64_in (x := (((a + b) / 2 : Nat) : Int) + 1) (by omega) (by omega)]
     simp only [cond_true, Int.toNat_natCast]
     by_cases hc : (l.getD ((a + b) / 2) (0, 0)).2 ≤ x
     · rw [dec_true hc, cond_true, lpK_inl]
       refine has_lp x n ((a + b) / 2 + 1) b (by omega) (by omega) hbl (fun i hi => ?_) h2
       rcases Nat.lt_or_ge i ((a + b) / 2) with h' | h'
       · have g1 := sts_gap h i ((a + b) / 2) h' (by omega)
         have g2 := sts_get h ((a + b) / 2) (by omega)
         omega
       · have : i = (a + b) / 2 := by omega
         rw [this]; exact hc
     · rw [dec_false hc, cond_false, lpK_inl]
       refine has_lp x n a ((a + b) / 2) (by omega) (by omega) (by omega) h1 (fun i hi hi2 => ?_)
       rcases Nat.lt_or_ge ((a + b) / 2) i with h' | h'
       · have g1 := sts_gap h ((a + b) / 2) i h' (by omega)
         have g2 := sts_get h i (by omega)
         omega
       · have : i = (a + b) / 2 := by omega
         rw [this]; omega
   · rw [dec_false (by omega), cond_false, lpK_inr]
     exact ⟨a, rfl, by omega, h1, fun i hi => h2 i (by omega)⟩
theorem Has3_ok (x : Int) : ∃ b, r03_Has l x = some b ∧ (b = true ↔ inS x l) := by
 obtain ⟨k, e, hk, h1, h2⟩ := has_lp h hp hl hb x l.length 0 l.length (by omega) (by omega) (by omega) (fun i hi => by omega) (fun i hi hi2 => by omega)
 rw [show ((0 : Nat) : Int) = 0 from rfl] at e
 simp only [r03_Has, Valid3_ok h hp hl hb, Option.bind_some, cond_true, r03_has, show Int.ofNat (List.length l) = (l.length : Int) from rfl, e]
 by_cases hkl : k < l.length
 · rw [dec_true (show (k : Int) < (l.length : Int) by omega), inR_t (by omega) (by omega)]
   simp only [Bool.true_or, cond_true, Int.toNat_natCast, Option.bind_some]
   refine ⟨_, rfl, ?_⟩
   rw [decide_eq_true_iff]
   have hgd : l.getD k ((0 : Int), (0 : Int)) = l[k] := by simp [hkl]
   constructor
   · intro hx
     exact ⟨l[k], List.getElem_mem hkl, by rw [← hgd]; exact hx, by rw [← hgd]; exact h2 k (Nat.le_refl _) hkl⟩
   · rintro ⟨s, hs, c1, c2⟩
     obtain ⟨i, hi, rfl⟩ := List.getElem_of_mem hs
     have hgi : l.getD i ((0 : Int), (0 : Int)) = l[i] := by simp [hi]
     rw [← hgi] at c1 c2
     rcases Nat.lt_trichotomy i k with h' | h' | h'
     · have := h1 i h'; omega
     · subst h'; exact c1
     · have g1 := sts_gap h k i h' hi
       have g2 := sts_get h k hkl
       omega
 · rw [dec_false (show ¬ (k : Int) < (l.length : Int) by omega)]
   simp only [Bool.not_false, Bool.or_true, cond_true, cond_false, Option.bind_some]
   refine ⟨false, rfl, ?_⟩
   simp only [Bool.false_eq_true, false_iff]
   rintro ⟨s, hs, c1, c2⟩
   obtain ⟨i, hi, rfl⟩ := List.getElem_of_mem hs
   have hgi : l.getD i ((0 : Int), (0 : Int)) = l[i] := by simp [hi]
   have := h1 i (by omega)
   rw [hgi] at this
   omega
end
end Go.Proofs.Pw
