/- StackHides. -/
import Derived.Test.YtdfbeioppmgheaaGreatPF
import Derived.Test.YtdfbeioppmgheaaGreatLD
open Go Go.Lft
namespace Go.Proofs.Pw
def nmX : ByteArray := ByteArray.mk #[101, 120, 116, 114, 97]
def EX (m : Int) : LayerT := (nmX, ((0 : Int), (((20449 : Int), (0 : Int)), ((1 : Int), ((1 : Int), ([m], (([] : List (Int × Int)), ((0 : Int), (0 : Int)))))))))
theorem nmX_ok : lexer_Name nmX = some true := lexer_Name_le 60 _ true (by kernel_rfl)
theorem nmX_not : nmX ∉ nmsL := by
 intro h
 simp only [nmsL, List.mem_cons, List.not_mem_nil, or_false] at h
 rcases h with h | h | h | h | h | h | h | h <;> exact absurd h (by decide)
theorem EX_ck {nz np nc : Nat} {m : Int} (hz : 1 ≤ nz) (h0 : 0 ≤ m) (h1 : m < np) : LCk nz np nc (EX m) :=
 ⟨Int.le_refl _, by show (0 : Int) < nz; omega, by show (1 : Int) ≤ 20449; omega, day_ok (by show (20440 : Int) ≤ 20449; omega) (by show (20449 : Int) ≤ 20500; omega), Int.le_refl _, by show (0 : Int) ≤ 86399; omega, by show (0 : Int) ≤ 1; omega, by show (1 : Int) ≤ 2; omega,
   Int.le_refl _, by show (1 : Int) ≤ 400; omega, by show (1 : Nat) ≠ 0; omega, by show (1 : Nat) ≤ 12; omega, fun x hx => by
     have : x = m := by simpa [EX] using hx
     subst this; exact ⟨h0, h1⟩, show (0 : Int) ≤ 604800 by omega, Nat.zero_le _, Int.le_refl _, show (0 : Int) ≤ 2 by omega, fun h => absurd rfl h, fun _ => rfl⟩
theorem nmX_app (k : Nat) : NmL (nmsL.take k ++ [nmX]) := by
 have h := nmsL_ok.take k
 refine ⟨List.nodup_append.2 ⟨h.1, by simp, fun a ha b hb e => ?_⟩, fun x hx => ?_⟩
 · simp at hb; subst hb; subst e
   exact nmX_not (List.mem_of_mem_take ha)
 · rcases List.mem_append.1 hx with hx | hx
   · exact h.2 x hx
   · simp at hx; subst hx; exact nmX_ok
theorem nmX_cons (k : Nat) : NmL (nmX :: nmsL.take k) := by
 have h := nmsL_ok.take k
 refine ⟨List.nodup_cons.2 ⟨fun hm => nmX_not (List.mem_of_mem_take hm), h.1⟩, fun x hx => ?_⟩
 rcases List.mem_cons.1 hx with rfl | hx
 · exact nmX_ok
 · exact h.2 x hx
noncomputable def pv (zs : List ZoneT) (ps : List PersonT) (cs : List CalT) (t : Int) (L : LayerT) : Int := (duty_View_Person ((zs, (ps, (cs, ([] : List SchedT)))), zs.map tb) L t).getD (-1)
theorem topI_top {g : Nat → Bool} {n : Nat} (h : g n = true) : topI g (n + 1) = some n := by simp only [topI, h, cond_true]
theorem topI_shift {g : Nat → Bool} : ∀ n, topI g (n + 1) = match topI (fun i => g (i + 1)) n with
   | some i => some (i + 1)
   | none => cond (g 0) (some 0) none
 | 0 => rfl
 | n + 1 => by
   rw [topI, topI_shift n]
   show cond (g (n + 1)) (some (n + 1)) _ = match cond (g (n + 1)) (some n) (topI (fun i => g (i + 1)) n) with
     | some i => some (i + 1)
     | none => cond (g 0) (some 0) none
   cases g (n + 1) <;> rfl
section
variable {zs : List ZoneT} {ps : List PersonT} {cs : List CalT} (hs : SOk2 zs ps cs)
include hs
theorem pv_ok {L : LayerT} (hL : LCk zs.length ps.length cs.length L) {t : Int} (h0 : 0 ≤ t) (h1 : t ≤ 8589934592) : (∀ ss : List SchedT, duty_View_Person ((zs, (ps, (cs, ss))), zs.map tb) L t = some (pv zs ps cs t L)) ∧ (pv zs ps cs t L = -1 ∨ 0 ≤ pv zs ps cs t L ∧ pv zs ps cs t L < ps.length) := by
 obtain ⟨p, K, hp, hr, _⟩ := vp_ok hs hL h0 h1
 have : pv zs ps cs t L = p := by simp only [pv, hp [], Option.getD_some]
 rw [this]
 exact ⟨hp, hr⟩
theorem pv_EX {m : Int} (hm0 : 0 ≤ m) (hm1 : m < ps.length) {t : Int} (h0 : 1767000000 ≤ t) (h1 : t ≤ 8589934592) : pv zs ps cs t (EX m) = m := by
 have hz0 := hs.so.z0
 have hL : LCk zs.length ps.length cs.length (EX m) := EX_ck hz0 hm0 hm1
 obtain ⟨p, K, hp, _, hK, hw⟩ := vp_ok hs hL (t := t) (by omega) h1
 have hz := zget hs.so.ok hL.z0 hL.z1
 generalize hzz : zs.getD (EX m).2.1.toNat (ByteArray.empty, ((0 : Int), ([] : List Rule))) = z at *
 have ht := hz.ztab.2
 obtain ⟨j, f⟩ := fstI_ok ht (s := sLoc (EX m) 0) (by show (20449 + 0 * stepD (EX m)) * 86400 + 0 ≤ (8000000000 : Int); simp)
 have hs0 : sLoc (EX m) 0 = 1766793600 := by show (20449 + 0 * stepD (EX m)) * 86400 + 0 = (1766793600 : Int); simp
 have ha := f.around ht (by omega)
 have hk : 0 ≤ K := by
   rcases hK with ⟨_, hq⟩ | ⟨hk, _⟩
   · refine absurd ⟨fstI z.2.1 (tb z).2 (sLoc (EX m) 0), ?_, by omega⟩ hq
     unfold hO
     rw [if_neg (show ¬ (EX m).2.2.2.1 = 0 by show ¬ (1 : Int) = 0; omega)]
     exact fO_t f
   · exact hk
 have e := hw rfl rfl hk
 have : pv zs ps cs t (EX m) = p := by simp only [pv, hp [], Option.getD_some]
 rw [this, e]
 show List.getD [m] (Int.tmod K 1).toNat 0 = m
 simp
omit hs in
theorem good0 {t : Int} {Pf : Nat → Int} (i : Nat) : goodL [] t Pf i = decide (0 ≤ Pf i) := by simp [goodL, awayB]
theorem whoX {nm : ByteArray} (hnm : lexer_Name nm = some true) {X : List LayerT} (hX : ∀ L ∈ X, LCk zs.length ps.length cs.length L) (hn : NmL (X.map (·.1))) (hl : X.length ≤ 6) {t : Int} (h0 : 0 ≤ t) (h1 : t ≤ 8589934592) :
   stack_Who (zs, (ps, (cs, [(nm, (X, ([] : List EditT)))]))) 0 t = some (topP [] t (fun i => pv zs ps cs t (X.getD i (EX 0))) X.length) := by
 have hc := cfgN_of (ss := [(nm, (X, ([] : List EditT)))]) hs (by simp) (NmL.one hnm) (fun s h => by
   simp at h; subst h
   exact ⟨hn, hX, hl, by simp, by simp⟩)
 exact (Who_cfg hs.so.ok hc (i := 0) (by simp) (t := t) (Pf := fun i => pv zs ps cs t (X.getD i (EX 0))) (fun k hk => by
   have hk : k < X.length := hk
   have e : X.getD k (EX 0) = X[k] := by simp [List.getD, hk]
   show duty_View_Person _ X[k] t = some (pv zs ps cs t (X.getD k (EX 0)))
   rw [e]
   exact (pv_ok hs (hX _ (List.getElem_mem hk)) h0 h1).1 _)).1
omit hs in
theorem topI_some {g : Nat → Bool} : ∀ {n i : Nat}, topI g n = some i → g i = true ∧ i < n
 | 0, i, h => by simp [topI] at h
 | n + 1, i, h => by
   simp only [topI] at h
   cases hg : g n with
   | true => rw [hg, cond_true] at h; simp only [Option.some.injEq] at h; subst h; exact ⟨hg, by omega⟩
   | false =>
     rw [hg, cond_false] at h
     have := topI_some h
     exact ⟨this.1, by omega⟩
theorem above_ok {X : List LayerT} {m : Int} (hm0 : 0 ≤ m) (hm1 : m < ps.length) {t : Int} (h0 : 1767000000 ≤ t) (h1 : t ≤ 8589934592) :
   topP [] t (fun i => pv zs ps cs t ((X ++ [EX m]).getD i (EX 0))) (X ++ [EX m]).length = m := by
 have e : pv zs ps cs t ((X ++ [EX m]).getD X.length (EX 0)) = m := by
   rw [show (X ++ [EX m]).getD X.length (EX 0) = EX m by simp [List.getD]]
   exact pv_EX hs hm0 hm1 h0 h1
 simp only [topP, List.length_append, List.length_singleton]
 rw [topI_top (n := X.length) (by rw [good0, e]; exact dec_true hm0)]
 exact e
theorem below_ok {X : List LayerT} {m : Int} (hm0 : 0 ≤ m) (hm1 : m < ps.length) {t : Int} (h0 : 1767000000 ≤ t) (h1 : t ≤ 8589934592) :
   (topP [] t (fun i => pv zs ps cs t (X.getD i (EX 0))) X.length < 0 → topP [] t (fun i => pv zs ps cs t ((EX m :: X).getD i (EX 0))) (EX m :: X).length = m) ∧
   (0 ≤ topP [] t (fun i => pv zs ps cs t (X.getD i (EX 0))) X.length → topP [] t (fun i => pv zs ps cs t ((EX m :: X).getD i (EX 0))) (EX m :: X).length = topP [] t (fun i => pv zs ps cs t (X.getD i (EX 0))) X.length) := by
 have e0 : pv zs ps cs t ((EX m :: X).getD 0 (EX 0)) = m := pv_EX hs hm0 hm1 h0 h1
 have es : ∀ i, pv zs ps cs t ((EX m :: X).getD (i + 1) (EX 0)) = pv zs ps cs t (X.getD i (EX 0)) := fun i => by simp [List.getD]
 have eg : (fun i => goodL [] t (fun i => pv zs ps cs t ((EX m :: X).getD i (EX 0))) (i + 1)) = goodL [] t (fun i => pv zs ps cs t (X.getD i (EX 0))) := by
   funext i; rw [good0, good0, es]
 simp only [topP, List.length_cons]
 rw [topI_shift, eg]
 cases hT : topI (goodL [] t fun i => pv zs ps cs t (X.getD i (EX 0))) X.length with
 | none =>
   have : goodL [] t (fun i => pv zs ps cs t ((EX m :: X).getD i (EX 0))) 0 = true := by rw [good0, e0]; exact dec_true hm0
   simp only [this, cond_true]
   exact ⟨fun _ => e0, fun h => by omega⟩
 | some i =>
   have := (topI_some hT).1
   rw [good0] at this
   have := of_decide_eq_true this
   simp only [es]
   exact ⟨fun h => by omega, fun _ => trivial⟩
theorem sh_lp {nm : ByteArray} (hnm : lexer_Name nm = some true) {X : List LayerT} (hX : ∀ L ∈ X, LCk zs.length ps.length cs.length L) (hn : X.map (·.1) = nmsL.take X.length) (hl : X.length ≤ 4) {m : Int} (hm0 : 0 ≤ m) (hm1 : m < ps.length) {D : List Int} :
   ∀ (n : Nat) (k a : Int), k + n = 8 → 0 ≤ k → DOk D a →
   law12_StackHides_l0 k zs ps cs nmX 0 20449 0 1 1 0 0 D a [(nm, (X, ([] : List EditT)))] [m] zs ps cs [(nm, (X ++ [EX m], ([] : List EditT)))] zs ps cs [(nm, (EX m :: X, ([] : List EditT)))] = some (.inr ())
 | 0, k, a, hk, k0, hd => by
   rw [law12_StackHides_l0_eq]
   simp only [law12_StackHides_l0_step]
   rw [dec_false (by omega), cond_false, lpK_inr]
 | n + 1, k, a, hk, k0, hd => by
   obtain ⟨t, a', e, t0, t1, d'⟩ := Instant_ok hd
   have hz0 := hs.so.z0
   have hEX : LCk zs.length ps.length cs.length (EX m) := EX_ck hz0 hm0 hm1
   have w0 := whoX hs hnm hX (by rw [hn]; exact nmsL_ok.take _) (by omega) (t := t) (by omega) (by omega)
   have wA := whoX hs hnm (X := X ++ [EX m]) (fun L hL => by
     rcases List.mem_append.1 hL with h | h
     · exact hX L h
     · simp at h; subst h; exact hEX) (by rw [List.map_append, hn]; exact nmX_app _) (by simp; omega) (t := t) (by omega) (by omega)
   have wB := whoX hs hnm (X := EX m :: X) (fun L hL => by
     rcases List.mem_cons.1 hL with rfl | h
     · exact hEX
     · exact hX L h) (by rw [List.map_cons, hn]; exact nmX_cons _) (by simp; omega) (t := t) (by omega) (by omega)
   rw [above_ok hs hm0 hm1 (by omega) (by omega)] at wA
   obtain ⟨b1, b2⟩ := below_ok hs (X := X) hm0 hm1 (t := t) (by omega) (by omega)
   have ih := sh_lp hnm hX hn hl hm0 hm1 (D := D) n (k + 1) a' (by omega) (by omega) d'
   generalize topP [] t (fun i => pv zs ps cs t (X.getD i (EX 0))) X.length = old at *
   generalize topP [] t (fun i => pv zs ps cs t ((EX m :: X).getD i (EX 0))) (EX m :: X).length = bel at *
   rw [law12_StackHides_l0_eq]
   simp only [law12_StackHides_l0_step, e, Option.bind_some]
   rw [dec_true (show k < 8 by omega), cond_true]
   simp only [w0, wA, wB, Option.bind_some, List.length_singleton]
   rw [inR_t (by omega) (by omega)]
   by_cases ho : old < 0
   · rw [dec_true ho, b1 ho, w64_in (by omega) (by omega)]
     simp only [cond_true, List.getD_cons_zero, bne_self_eq_false, cond_false, lpK_inl]
     exact ih
   · rw [dec_false ho, b2 (by omega), w64_in (by omega) (by omega)]
     simp only [cond_true, cond_false, List.getD_cons_zero, bne_self_eq_false, lpK_inl]
     exact ih
end
theorem nms3_get (k : Nat) (hk : k < 3) : lexer_Name (nms3.getD k ByteArray.empty) = some true := by
 have : nms3.getD k ByteArray.empty ∈ nms3 := by
   have hk : k < nms3.length := hk
   rw [show nms3.getD k ByteArray.empty = nms3[k] by simp [List.getD, hk]]
   exact List.getElem_mem hk
 exact nms3_ok.2 _ this
theorem StackHides_true (t : List Int) (_h : Wf (.list (.int .i64)) t) : law12_StackHides t = some true := by
 simp only [law12_StackHides, made_Light, Option.bind_some, show Int.ofNat (List.length t) = (t.length : Int) from rfl]
 by_cases hl : (t.length : Int) ≤ 500
 · rw [dec_true hl]
   simp only [Bool.not_true, cond_false, made_Roll, Option.bind_some]
   obtain ⟨zs, ps, cs, ss, a1, e1, hs, g0, g1, g2, g3, d1⟩ := ConfigN_ok (L := t) (a := 0) (n := 1) ⟨by omega, by omega, by omega⟩ (by omega) (by omega)
   obtain ⟨s, rfl⟩ : ∃ s, ss = [s] := by
     match ss, g0, g1 with
     | [s], _, _ => exact ⟨s, rfl⟩
     | s :: s' :: r, _, g1 => simp at g1; omega
   have hsg := g3 s (by simp)
   have hp0 := hs.so.p0; have hp1 := hs.so.p1; have hz1 := hs.so.z1; have hc1 := hs.so.c1
   obtain ⟨m, a2, e2, m0, m1, d2⟩ := Next_ok (n := (ps.length : Int)) d1 (by omega) (by omega)
   have hnm : lexer_Name s.1 = some true := by
     have e : s.1 = nms3.getD 0 ByteArray.empty := by simpa [nms3] using g2
     rw [e]; exact nms3_get 0 (by omega)
   have hcp := Copy_ok (zs := zs) (ps := ps) (cs := cs) (ss := [(s.1, (s.2.1, ([] : List EditT)))]) (by omega) (by omega) (by omega) (by simp) (fun x hx => by
     simp at hx; subst hx
     have := hsg.ll
     exact ⟨by dsimp only; omega, by simp⟩)
   have hll := hsg.ll
   simp only [e1, Option.bind_some, List.length_singleton]
   rw [inR_t (by omega) (by omega)]
   simp only [cond_true, List.getD_cons_zero, show Int.ofNat ps.length = (ps.length : Int) from rfl, e2, Option.bind_some, hcp, List.nil_append, List.length_nil, List.length_singleton]
   rw [dec_true (show 0 + s.2.1.length ≤ sizeMax by simp [sizeMax]; omega), dec_true (show s.2.1.length + 1 ≤ sizeMax by simp [sizeMax]; omega), inR_t (show (0 : Int) ≤ 0 by omega) (show (0 : Int) < ((1 : Nat) : Int) by omega), dec_true (show 1 + s.2.1.length ≤ sizeMax by simp [sizeMax]; omega)]
   simp only [cond_true, List.set_cons_zero]
   have lp := sh_lp hs hnm hsg.ck.ly hsg.nm (by omega) m0 m1 (D := t) 8 0 a2 (by omega) (by omega) d2
   rw [show law12_StackHides_l0 0 zs ps cs (ByteArray.mk #[101, 120, 116, 114, 97]) 0 20449 0 1 1 0 0 t a2 [(s.1, (s.2.1, ([] : List EditT)))] [m] zs ps cs [(s.1, (s.2.1 ++ [((ByteArray.mk #[101, 120, 116, 114, 97]), ((0 : Int), (((20449 : Int), (0 : Int)), ((1 : Int), ((1 : Int), ([m], (([] : List (Int × Int)), ((0 : Int), (0 : Int)))))))))], ([] : List EditT)))] zs ps cs [(s.1, ([((ByteArray.mk #[101, 120, 116, 114, 97]), ((0 : Int), (((20449 : Int), (0 : Int)), ((1 : Int), ((1 : Int), ([m], (([] : List (Int × Int)), ((0 : Int), (0 : Int)))))))))] ++ s.2.1, ([] : List EditT)))] = _ from lp]
   simp only [Option.bind_some, sumC_inr, sane12]
 · rw [dec_false hl]
   simp only [Bool.not_false, cond_true, sane12, Option.bind_some]
end Go.Proofs.Pw
