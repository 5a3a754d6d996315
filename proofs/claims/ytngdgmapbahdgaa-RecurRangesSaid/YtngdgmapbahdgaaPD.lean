/- Chapter 4: the laws ZoneBack and ZoneAscends, on plain functions. -/
import Derived.Test.YtngdgmapbahdgaaPC
import Derived.Test.YtngdgmapbahdgaaPB
import Derived.Test.YtngdgmapbahdgaaLD
open Go Go.Lft
namespace Go.Proofs.Pw

theorem dif_out : ∀ (L : TrL) (now : Int) (p : Option Int), Good now p L → ∀ i, i < (outT now L).length → -86400 < tof now (outT now L) (i + 1) - tof now (outT now L) i ∧ tof now (outT now L) (i + 1) - tof now (outT now L) i < 86400
  | [], _, _, _, i, hi => by simp [outT] at hi
  | x :: r, now, p, h, i, hi => by
    simp only [Good] at h
    by_cases hx : x.2 = now
    · rw [if_pos hx] at h
      have e : outT now (x :: r) = outT now r := by simp [outT, hx]
      rw [e] at hi ⊢
      exact dif_out r now p h i hi
    · rw [if_neg hx] at h
      have e : outT now (x :: r) = (x.1 - now, x.2) :: outT x.2 r := by simp [outT, hx]
      rw [e] at hi ⊢
      obtain ⟨⟨g1, g2, _⟩, g8⟩ := h
      cases i with
      | zero => exact ⟨g1, g2⟩
      | succ i =>
        have := dif_out r x.2 _ g8 i (by simpa using hi)
        cases i with
        | zero => exact this
        | succ i => exact this

section
variable {o : Int} {l : TrL} (h : TOk o l)
include h

theorem frm_range {k : Nat} (hk : k ≤ l.length) : 0 ≤ frm l k ∧ frm l (k + 1) ≤ 8589934593 := by
  have g1 := h.frm_le (i := 0) (j := k) (by omega) (by omega)
  have g2 := h.frm_le (i := k + 1) (j := l.length + 1) (by omega) (by omega)
  rw [frm0] at g1
  rw [frm_end] at g2
  exact ⟨g1, g2⟩

theorem piece_uniq {i j : Nat} {t : Int} (hi : i ≤ l.length) (hj : j ≤ l.length) (a1 : frm l i ≤ t) (a2 : t < frm l (i + 1)) (b1 : frm l j ≤ t) (b2 : t < frm l (j + 1)) : i = j := by
  rcases Nat.lt_trichotomy i j with hij | hij | hij
  · have := h.frm_le (i := i + 1) (j := j) (by omega) (by omega); omega
  · exact hij
  · have := h.frm_le (i := j + 1) (j := i) (by omega) (by omega); omega

/-- Ahead of the first solution the pieces end below. -/
theorem before_sol {s : Int} (hs : 64800 < s) {a : Nat} (ha : a ≤ l.length) (hsol : Sol o l s a) (hfirst : ∀ j, j < a → ¬ Sol o l s j) : ∀ j, j < a → frm l (j + 1) ≤ s - tof o l j := by
  intro j hj
  rcases Int.lt_or_le (s - tof o l j) (frm l (j + 1)) with hlt | hle
  · exfalso
    have hns := hfirst j hj
    have hb : s - tof o l j < frm l j := by
      rcases Int.lt_or_le (s - tof o l j) (frm l j) with h' | h'
      · exact h'
      · exact absurd ⟨h', hlt⟩ hns
    have o1 := h.of0 j (by omega); have o2 := h.of1 j (by omega); have o3 := h.of0 a ha; have o4 := h.of1 a ha
    have g := h.frm_le (i := j + 1) (j := a) (by omega) (by omega)
    obtain ⟨s1, s2⟩ := hsol
    by_cases h0 : j = 0
    · subst h0
      rw [frm0] at hb; omega
    · have := h.frm_gap (i := j) (j := j + 1) (by omega) (by omega) (by omega)
      omega
  · exact hle
end

theorem back_step {nm : ByteArray} {o : Int} {rs : List Rule} {x d c len : Int} {f : Bool} {i : Nat} {ys : List Int} (hlen : len = (ys.length : Int)) (hi : i < ys.length) (hl : ys.length ≤ 2)
    (hloc : zone_ToLocal (nm, (o, rs)) (ys.getD i 0) = some ((d, c), 0)) (hasc : 0 < i → ys.getD (i - 1) 0 < ys.getD i 0) :
    law04_ZoneBack_l0 x f len (i : Int) nm o rs d c ys = law04_ZoneBack_l0 x (cond f true (ys.getD i 0 == x)) len ((i + 1 : Nat) : Int) nm o rs d c ys := by
  rw [law04_ZoneBack_l0_eq]
  simp only [law04_ZoneBack_l0_step]
  rw [dec_true (show (i : Int) < len by omega), inR_t (by omega) (by omega)]
  simp only [cond_true, Int.toNat_natCast, hloc, Option.bind_some, bne_self_eq_false, cond_false, beq_self_eq_true, Bool.and_self, Bool.not_true, Bool.true_or]
  rw [w64_in (x := (i : Int) + 1) (by omega) (by omega)]
  by_cases h0 : i = 0
  · subst h0
    rw [dec_false (by omega)]
    simp only [cond_false, lpK_inl]
    rfl
  · have := hasc (by omega)
    rw [dec_true (show (i : Int) > 0 by omega), w64_in (x := (i : Int) - 1) (by omega) (by omega), inR_t (by omega) (by omega), show ((i : Int) - 1).toNat = i - 1 by omega, dec_false (show ¬ ys.getD i (0 : Int) ≤ ys.getD (i - 1) (0 : Int) by omega)]
    simp only [cond_true, cond_false, lpK_inl]
    rfl

theorem back_end {nm : ByteArray} {o : Int} {rs : List Rule} {x d c len : Int} {f : Bool} {i : Nat} {ys : List Int} (hi : len ≤ (i : Int)) : law04_ZoneBack_l0 x f len (i : Int) nm o rs d c ys = some (.inr f) := by
  rw [law04_ZoneBack_l0_eq]
  simp only [law04_ZoneBack_l0_step]
  rw [dec_false (by omega), cond_false, lpK_inr]

theorem ZoneBack_true (t : List Int) (_h : Wf (.list (.int .i64)) t) (n : Int) (_h2 : Wf (.int .i64) n) : law04_ZoneBack t n = some true := by
  simp only [law04_ZoneBack, made_Light, Option.bind_some, show Int.ofNat (List.length t) = (t.length : Int) from rfl]
  by_cases hl : (t.length : Int) ≤ 500
  · rw [dec_true hl]
    simp only [Bool.not_true, cond_false, made_Roll, Option.bind_some]
    obtain ⟨o, rs, a', e, hm, _⟩ := Zone_ok (L := t) (a := 0) ⟨by omega, by omega, by omega⟩ (ByteArray.mk #[97])
    have hx : 0 ≤ n % 94608000 ∧ n % 94608000 < 94608000 := by omega
    simp only [e, Option.bind_some, Mod_eq n 94608000 (by omega) (by omega)]
    rw [w64_in (x := 1767225600 + n % 94608000) (by omega) (by omega), w64_in (x := 1767225600 + n % 94608000 - 31536000) (by omega) (by omega)]
    obtain ⟨x, hxe⟩ : ∃ x, x = 1767225600 + n % 94608000 - 31536000 := ⟨_, rfl⟩
    rw [← hxe]
    have hx0 : 1735689600 ≤ x := by omega
    have hx1 : x ≤ 1830297600 := by omega
    have hz := hm.tab (ByteArray.mk #[97])
    generalize outT o (isort (occs rs)) = l at hz
    have ht : TOk o l := hz.2
    obtain ⟨k0, hk0, hk1, hk2⟩ := ex_piece ht (t := x) (by omega) (by omega)
    have o1 := ht.of0 k0 hk0; have o2 := ht.of1 k0 hk0
    have hL := ToLocal_ok hz (by omega) (by omega) hk0 hk1 hk2
    dsimp only at hL
    obtain ⟨d, hd⟩ : ∃ d, d = (x + tof o l k0) / 86400 := ⟨_, rfl⟩
    obtain ⟨c, hc⟩ : ∃ c, c = (x + tof o l k0) % 86400 := ⟨_, rfl⟩
    rw [← hd, ← hc] at hL
    have hs : d * 86400 + c = x + tof o l k0 := by omega
    have hd0 : 0 ≤ d ∧ d ≤ 1000000 := by omega
    have hc0 : 0 ≤ c ∧ c ≤ 86399 := by omega
    have hsol0 : Sol o l (d * 86400 + c) k0 := by
      rw [hs]; constructor <;> omega
    obtain ⟨a, ⟨hsolA, haN⟩, hmin⟩ := least (fun j => Sol o l (d * 86400 + c) j ∧ j ≤ l.length) k0 ⟨hsol0, hk0⟩
    have hfirst : ∀ j, j < a → ¬ Sol o l (d * 86400 + c) j := fun j hj hsj => by have := hmin j ⟨hsj, by omega⟩; omega
    have hall := All_first ht (by omega) (by omega) (by omega) (by omega) haN hsolA hfirst
    have hF := FromLocal_ok hz hc0.1 hc0.2 hall
    have hbef := before_sol ht (by omega) haN hsolA hfirst
    have hFst := First_ok' hz hc0.1 hc0.2 (First_ok ht (by omega) (by omega) (by omega) (by omega) haN hsolA.2 hbef)
    have hmax : max (frm l a) (d * 86400 + c - tof o l a) = d * 86400 + c - tof o l a := by have := hsolA.1; omega
    rw [hmax] at hFst
    have hto : ∀ j, j ≤ l.length → Sol o l (d * 86400 + c) j → zone_ToLocal (ByteArray.mk #[97], (o, rs)) (d * 86400 + c - tof o l j) = some ((d, c), 0) := by
      intro j hj hsj
      have hr := frm_range ht hj
      have := ToLocal_ok hz (t := d * 86400 + c - tof o l j) (k := j) (by have := hsj.1; omega) (by have := hsj.2; omega) hj hsj.1 hsj.2
      rw [this]
      dsimp only
      rw [show d * 86400 + c - tof o l j + tof o l j = d * 86400 + c by omega]
      congr 3 <;> omega
    have hxk : x = d * 86400 + c - tof o l k0 := by omega
    simp only [hL, hF, hFst, Option.bind_some, bne_self_eq_false]
    by_cases h1 : a + 1 ≤ l.length ∧ Sol o l (d * 86400 + c) (a + 1)
    · rw [if_pos h1]
      have hlt : d * 86400 + c - tof o l a < d * 86400 + c - tof o l (a + 1) := by have := hsolA.2; have := h1.2.1; omega
      have hk0a : k0 = a ∨ k0 = a + 1 := by
        rcases Nat.lt_trichotomy a k0 with hlt | heq | hgt
        · exact .inr (sol_near ht hlt hk0 hsolA hsol0)
        · exact .inl heq.symm
        · exact absurd hsol0 (hfirst k0 hgt)
      generalize hy1 : d * 86400 + c - tof o l a = y1 at *
      generalize hy2 : d * 86400 + c - tof o l (a + 1) = y2 at *
      have t1 : zone_ToLocal (ByteArray.mk #[97], (o, rs)) y1 = some ((d, c), 0) := hy1 ▸ hto a haN hsolA
      have t2 : zone_ToLocal (ByteArray.mk #[97], (o, rs)) y2 = some ((d, c), 0) := hy2 ▸ hto (a + 1) h1.1 h1.2
      have s0 := back_step (nm := ByteArray.mk #[97]) (o := o) (rs := rs) (x := x) (d := d) (c := c) (len := 2) (f := false) (i := 0) (ys := [y1, y2]) rfl (by simp) (by simp) t1 (by omega)
      have s1 := back_step (nm := ByteArray.mk #[97]) (o := o) (rs := rs) (x := x) (d := d) (c := c) (len := 2) (f := cond false true (y1 == x)) (i := 1) (ys := [y1, y2]) rfl (by simp) (by simp) t2 (fun _ => hlt)
      have s2 := back_end (nm := ByteArray.mk #[97]) (o := o) (rs := rs) (x := x) (d := d) (c := c) (len := 2) (f := cond (cond false true (y1 == x)) true (y2 == x)) (i := 2) (ys := [y1, y2]) (by omega)
      have hfound : cond (cond false true (y1 == x)) true (y2 == x) = true := by
        rcases hk0a with rfl | rfl
        · rw [beq_t (show y1 = x by omega)]; rfl
        · rw [beq_t (show y2 = x by omega)]; cases (y1 == x) <;> rfl
      rw [show ((0 : Nat) : Int) = 0 from rfl] at s0
      have hloop : law04_ZoneBack_l0 x false 2 0 (ByteArray.mk #[97]) o rs d c [y1, y2] = some (.inr true) := by
        rw [s0, show List.getD [y1, y2] 0 0 = y1 from rfl]
        rw [show ((0 + 1 : Nat) : Int) = ((1 : Nat) : Int) from rfl, s1, show List.getD [y1, y2] 1 0 = y2 from rfl, show ((1 + 1 : Nat) : Int) = ((2 : Nat) : Int) from rfl, s2, hfound]
      simp only [show Int.ofNat (List.length [y1, y2]) = 2 from rfl, show inR 0 (List.length [y1, y2]) = true from rfl, show List.getD [y1, y2] 0 0 = y1 from rfl, hloop, bne_self_eq_false, Option.bind_some, sumC_inr, sane04]
      rfl
    · rw [if_neg h1]
      have hk0a : k0 = a := by
        rcases Nat.lt_trichotomy a k0 with hlt | heq | hgt
        · have := sol_near ht hlt hk0 hsolA hsol0
          subst this
          exact absurd ⟨hk0, hsol0⟩ h1
        · exact heq.symm
        · exact absurd hsol0 (hfirst k0 hgt)
      subst hk0a
      rw [← hxk]
      have t1 : zone_ToLocal (ByteArray.mk #[97], (o, rs)) x = some ((d, c), 0) := hL
      have s0 := back_step (nm := ByteArray.mk #[97]) (o := o) (rs := rs) (x := x) (d := d) (c := c) (len := 1) (f := false) (i := 0) (ys := [x]) rfl (by simp) (by simp) t1 (by omega)
      have s2 := back_end (nm := ByteArray.mk #[97]) (o := o) (rs := rs) (x := x) (d := d) (c := c) (len := 1) (f := cond false true (x == x)) (i := 1) (ys := [x]) (by omega)
      rw [show ((0 : Nat) : Int) = 0 from rfl] at s0
      have hloop : law04_ZoneBack_l0 x false 1 0 (ByteArray.mk #[97]) o rs d c [x] = some (.inr true) := by
        rw [s0, show List.getD [x] 0 0 = x from rfl, show ((0 + 1 : Nat) : Int) = ((1 : Nat) : Int) from rfl, s2]
        simp
      simp only [show Int.ofNat (List.length [x]) = 1 from rfl, show inR 0 (List.length [x]) = true from rfl, show List.getD [x] 0 0 = x from rfl, hloop, bne_self_eq_false, Option.bind_some, sumC_inr, sane04]
      rfl
  · rw [dec_false hl]
    simp only [Bool.not_false, cond_true, sane04, Option.bind_some]
end Go.Proofs.Pw
