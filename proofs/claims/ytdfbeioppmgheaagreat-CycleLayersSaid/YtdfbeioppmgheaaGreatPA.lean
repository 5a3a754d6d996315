/- Small facts on Go's division. -/
import Derived.Test.YtdfbeioppmgheaaGreatLD
import Derived.Test.YtdfbeioppmgheaaGreatFns
open Go Go.Lft
namespace Go.Proofs.Pw
theorem tdm (a b : Int) (hb : 0 < b) : b * Int.tdiv a b + Int.tmod a b = a ∧ (0 ≤ a → 0 ≤ Int.tmod a b) ∧ (a ≤ 0 → Int.tmod a b ≤ 0) ∧ Int.tmod a b < b ∧ -b < Int.tmod a b := by
 have h1 := Int.mul_tdiv_add_tmod a b
 have h2 : 0 ≤ a → 0 ≤ Int.tmod a b := fun h => Int.tmod_nonneg b h
 have h3 : a ≤ 0 → Int.tmod a b ≤ 0 := fun h => by
   have := Int.tmod_nonneg (a := -a) b (by omega)
   rw [Int.neg_tmod] at this; omega
 have h4 := Int.tmod_lt_of_pos a hb
 have h5 : -b < Int.tmod a b := by
   have := Int.tmod_lt_of_pos (-a) hb
   rw [Int.neg_tmod] at this; omega
 exact ⟨h1, h2, h3, h4, h5⟩
theorem tdiv_nn {a b : Int} (ha : 0 ≤ a) : Int.tdiv a b = a / b := Int.tdiv_eq_ediv_of_nonneg ha
theorem tmod_nn {a b : Int} (ha : 0 ≤ a) : Int.tmod a b = a % b := Int.tmod_eq_emod_of_nonneg ha
theorem tmod_zero (a b : Int) : (Int.tmod a b == 0) = (a % b == 0) := by
 rw [Bool.eq_iff_iff]
 simp only [beq_iff_eq]
 rw [← Int.dvd_iff_tmod_eq_zero, ← Int.dvd_iff_emod_eq_zero]
theorem dec_true {p : Prop} [Decidable p] (h : p) : decide p = true := decide_eq_true h
theorem dec_false {p : Prop} [Decidable p] (h : ¬ p) : decide p = false := decide_eq_false h
theorem beq_t {a b : Int} (h : a = b) : (a == b) = true := by simp [h]
theorem beq_f {a b : Int} (h : a ≠ b) : (a == b) = false := by simp [h]
theorem inR_t {i : Int} {n : Nat} (h1 : 0 ≤ i) (h2 : i < n) : inR i n = true := by simp [inR, h1, h2]
end Go.Proofs.Pw
open Go Go.Lft
namespace Go.Proofs.Pw
def seenOf (ks : List ByteArray) : List (ByteArray × Bool) := ks.map fun k => (k, true)
def NmL (ks : List ByteArray) : Prop := ks.Nodup ∧ ∀ k ∈ ks, lexer_Name k = some true
theorem get_not {s : ByteArray} : ∀ {l : List ByteArray}, s ∉ l → mapGet false (seenOf l) s = false ∧ mapSet (seenOf l) s true = seenOf (l ++ [s])
 | [], _ => ⟨rfl, rfl⟩
 | k :: l, h => by
   simp only [List.mem_cons, not_or] at h
   obtain ⟨h1, h2⟩ := get_not (l := l) h.2
   have hb : (s == k) = false := Bool.eq_false_iff.2 fun hh => h.1 ((MapKept.bytes_beq s k).1 hh)
   refine ⟨?_, ?_⟩
   · show cond (s == k) true (mapGet false (seenOf l) s) = false
     rw [hb]; exact h1
   · show cond (s == k) ((s, true) :: seenOf l) ((k, true) :: mapSet (seenOf l) s true) = _
     rw [hb, cond_false, h2]; rfl
theorem name_at {α : Type} (f : α → ByteArray) {xs : List α} (h : NmL (xs.map f)) {i : Nat} (hi : i < xs.length) : resolve_name (f xs[i]) (seenOf ((xs.take i).map f)) = some (0, seenOf ((xs.take (i + 1)).map f)) := by
 have hm : f xs[i] ∈ xs.map f := List.mem_map_of_mem (List.getElem_mem hi)
 have hn : f xs[i] ∉ (xs.take i).map f := by
   intro hx
   have hs : xs.map f = (xs.take i).map f ++ (f xs[i] :: (xs.drop (i + 1)).map f) := by
     rw [← List.map_cons, ← List.map_append, List.getElem_cons_drop hi, List.take_append_drop]
   have := h.1
   rw [hs, List.nodup_append] at this
   exact this.2.2 _ hx _ (by simp) rfl
 obtain ⟨h1, h2⟩ := get_not hn
 simp only [resolve_name, h.2 _ hm, Option.bind_some, Bool.not_true, cond_false, h1, h2]
 rw [List.take_add_one, List.getElem?_eq_getElem hi, List.map_append]
 rfl
end Go.Proofs.Pw
open Go Go.Lft
namespace Go.Proofs.Pw
abbrev TrL := List (Int × Int)
def tat (l : TrL) (i : Nat) : Int := (l.getD i (0, 0)).1
def tof (o : Int) (l : TrL) (i : Nat) : Int := if i = 0 then o else (l.getD (i - 1) (0, 0)).2
def frm (l : TrL) (i : Nat) : Int := if i = 0 then 0 else if i ≤ l.length then tat l (i - 1) else 8589934593
structure TOk (o : Int) (l : TrL) : Prop where
 len : l.length ≤ 1000
 gap : ∀ i, i + 1 < l.length → tat l i + 604800 ≤ tat l (i + 1)
 pos : ∀ i, i < l.length → 1000000 < tat l i
 max : ∀ i, i < l.length → tat l i ≤ 8589000000
 of0 : ∀ i, i ≤ l.length → -64800 ≤ tof o l i
 of1 : ∀ i, i ≤ l.length → tof o l i ≤ 64800
section
variable {o : Int} {l : TrL} (h : TOk o l)
include h
def pc (o : Int) (l : TrL) (i : Nat) : Int × (Int × Int) := (frm l i, (frm l (i + 1), tof o l i))
def Sol (o : Int) (l : TrL) (s : Int) (i : Nat) : Prop := frm l i ≤ s - tof o l i ∧ s - tof o l i < frm l (i + 1)
instance (o : Int) (l : TrL) (s : Int) (i : Nat) : Decidable (Sol o l s i) := by unfold Sol; infer_instance
end
end Go.Proofs.Pw
open Go Go.Lft
namespace Go.Proofs.Pw
def insRev (x : Int × Int) : TrL → TrL
 | [] => [x]
 | y :: ys => if x.1 < y.1 then y :: insRev x ys else x :: y :: ys
def isortRev : TrL → TrL → TrL
 | [], acc => acc
 | x :: xs, acc => isortRev xs (insRev x acc)
def isort (l : TrL) : TrL := (isortRev l []).reverse
theorem insRev_len (x : Int × Int) : ∀ l, (insRev x l).length = l.length + 1
 | [] => rfl
 | y :: ys => by unfold insRev; split <;> simp [insRev_len x ys]
theorem isortRev_len : ∀ (l acc : TrL), (isortRev l acc).length = l.length + acc.length
 | [], acc => by simp [isortRev]
 | x :: xs, acc => by simp only [isortRev, isortRev_len xs, insRev_len, List.length_cons]; omega
def Sm (l : TrL) : Prop := ∀ x ∈ l, -1000000000000 ≤ x.1 ∧ x.1 ≤ 1000000000000
theorem insRev_sm {x : Int × Int} (hx : -1000000000000 ≤ x.1 ∧ x.1 ≤ 1000000000000) : ∀ {l : TrL}, Sm l → Sm (insRev x l)
 | [], _ => fun y hy => by simp [insRev] at hy; subst hy; exact hx
 | z :: zs, h => by
   unfold insRev
   split
   · intro y hy
     rcases List.mem_cons.1 hy with rfl | hy
     · exact h _ (by simp)
     · exact insRev_sm hx (l := zs) (fun w hw => h w (by simp [hw])) y hy
   · intro y hy
     rcases List.mem_cons.1 hy with rfl | hy
     · exact hx
     · exact h y hy
theorem get_mid (rp mid : TrL) (x : Int × Int) : (rp.reverse ++ x :: mid).getD rp.length (0, 0) = x := by
 rw [List.getD_eq_getElem?_getD, List.getElem?_append_right (by simp)]
 simp
theorem ins_l2 (n s8 : Int) (x : Int × Int) (hx : -1000000000000 ≤ x.1 ∧ x.1 ≤ 1000000000000) : ∀ (rp mid : TrL), Sm rp → rp.length + mid.length ≤ 1000 →
   slices_insertionSortCmpFunc_zone_occurrence_l2 0 n s8 (rp.length : Int) (rp.reverse ++ x :: mid) = some (0, n, s8, (insRev x rp).reverse ++ mid)
 | [], mid, _, _ => by
   rw [slices_insertionSortCmpFunc_zone_occurrence_l2_eq]
   simp only [slices_insertionSortCmpFunc_zone_occurrence_l2_step]
   rw [dec_false (by simp), cond_false, lpK_inr]
   rfl
 | y :: ys, mid, hsm, hlen => by
   have hy := hsm y (by simp)
   have hL : ((y :: ys).reverse ++ x :: mid).length = ys.length + 1 + (mid.length + 1) := by simp; omega
   simp only [List.length_cons] at hlen
   rw [slices_insertionSortCmpFunc_zone_occurrence_l2_eq]
   simp only [slices_insertionSortCmpFunc_zone_occurrence_l2_step, List.length_cons]
   rw [dec_true (show ((ys.length + 1 : Nat) : Int) > 0 by omega), inR_t (by omega) (by rw [hL]; omega), w64_in (x := ((ys.length + 1 : Nat) : Int) - 1) (by omega) (by omega), inR_t (by omega) (by rw [hL]; omega)]
   simp only [cond_true, Int.toNat_natCast]
   have g1 : ((y :: ys).reverse ++ x :: mid).getD (ys.length + 1) ((0 : Int), (0 : Int)) = x := get_mid (y :: ys) mid x
   have g2 : ((y :: ys).reverse ++ x :: mid).getD ((((ys.length + 1 : Nat) : Int) - 1).toNat) ((0 : Int), (0 : Int)) = y := by
     rw [show (((ys.length + 1 : Nat) : Int) - 1).toNat = ys.length by omega]
     simp
   rw [g1, g2]
   simp only [zone_occurrences_c1, Option.bind_some]
   rw [w64_in (x := x.1 - y.1) (by omega) (by omega)]
   by_cases hc : x.1 < y.1
   · rw [dec_true (show x.1 - y.1 < 0 by omega)]
     have hset : List.set (List.set ((y :: ys).reverse ++ x :: mid) (ys.length + 1) (y.1, y.2)) ((((ys.length + 1 : Nat) : Int) - 1).toNat) (x.1, x.2) = ys.reverse ++ x :: (y :: mid) := by
       rw [show (((ys.length + 1 : Nat) : Int) - 1).toNat = ys.length by omega]
       simp
     rw [inR_t (by omega) (by rw [List.length_set, hL]; omega)]
     simp only [cond_true, lpK_inl, hset]
     have he := ins_l2 n s8 x hx ys (y :: mid) (fun z hz => hsm z (by simp [hz])) (by simp; omega)
     rw [show ((ys.length + 1 : Nat) : Int) - 1 = (ys.length : Int) by omega, he]
     simp [insRev, hc]
   · rw [dec_false (show ¬ x.1 - y.1 < 0 by omega)]
     simp only [cond_false, lpK_inr]
     simp [insRev, hc]
theorem ins_l0 : ∀ (xs rp : TrL), Sm rp → Sm xs → rp.length + xs.length ≤ 1000 →
   slices_insertionSortCmpFunc_zone_occurrence_l0 0 ((rp.length + xs.length : Nat) : Int) (rp.length : Int) (rp.reverse ++ xs) = some (isortRev xs rp).reverse
 | [], rp, _, _, _ => by
   rw [slices_insertionSortCmpFunc_zone_occurrence_l0_eq]
   simp only [slices_insertionSortCmpFunc_zone_occurrence_l0_step]
   rw [dec_false (by simp), cond_false, lpK_inr]
   simp [isortRev]
 | x :: xs, rp, hr, hx, hlen => by
   have hxx := hx x (by simp)
   simp only [List.length_cons] at hlen
   have he := ins_l2 ((rp.length + (x :: xs).length : Nat) : Int) (rp.length : Int) x hxx rp xs hr (by omega)
   have ih := ins_l0 xs (insRev x rp) (insRev_sm hxx hr) (fun z hz => hx z (by simp [hz])) (by rw [insRev_len]; omega)
   rw [insRev_len] at ih
   rw [slices_insertionSortCmpFunc_zone_occurrence_l0_eq]
   simp only [slices_insertionSortCmpFunc_zone_occurrence_l0_step]
   rw [dec_true (by simp only [List.length_cons]; omega), he]
   simp only [cond_true, Option.bind_some, isortRev]
   rw [show rp.length + 1 + xs.length = rp.length + (x :: xs).length by simp; omega] at ih
   rw [w64_in (by omega) (by omega), lpK_inl]
   exact ih
theorem SortStable_ok {l : TrL} (hs : Sm l) (hl : l.length < 20) : slices_SortStableFunc_zone_occurrence_zone_occurrence l = some (isort l) := by
 have hins : slices_insertionSortCmpFunc_zone_occurrence l 0 (l.length : Int) = some (isort l) := by
   simp only [slices_insertionSortCmpFunc_zone_occurrence]
   cases l with
   | nil =>
     rw [slices_insertionSortCmpFunc_zone_occurrence_l0_eq]
     rfl
   | cons x xs =>
     have := ins_l0 xs [x] (fun z hz => by simp at hz; subst hz; exact hs _ (by simp)) (fun z hz => hs z (by simp [hz])) (by simp at hl ⊢; omega)
     rw [show w64 (0 + 1) = (([x] : TrL).length : Int) from rfl, show ((x :: xs).length : Int) = (([x].length + xs.length : Nat) : Int) by simp; omega]
     rw [show (x :: xs) = [x].reverse ++ xs from rfl, this]
     rfl
 have e0 : slices_stableCmpFunc_zone_occurrence_l0 (l.length : Int) 20 0 20 l = some ((l.length : Int), 20, 0, l) := by
   rw [slices_stableCmpFunc_zone_occurrence_l0_eq]
   simp only [slices_stableCmpFunc_zone_occurrence_l0_step]
   rw [dec_false (by omega), cond_false, lpK_inr]
 have e2 : slices_stableCmpFunc_zone_occurrence_l2 (l.length : Int) 20 (isort l) = some (isort l) := by
   rw [slices_stableCmpFunc_zone_occurrence_l2_eq]
   simp only [slices_stableCmpFunc_zone_occurrence_l2_step]
   rw [dec_false (by omega), cond_false, lpK_inr]
 simp only [slices_SortStableFunc_zone_occurrence_zone_occurrence, slices_stableCmpFunc_zone_occurrence, show Int.ofNat (List.length l) = (l.length : Int) from rfl, e0, Option.bind_some, hins, e2]
end Go.Proofs.Pw
open Go Go.Lft
namespace Go.Proofs.Pw
def leapB (y : Int) : Bool := decide (y % 4 = 0) && (!decide (y % 100 = 0) || decide (y % 400 = 0))
def leapI (y : Int) : Int := if y % 4 = 0 ∧ (y % 100 ≠ 0 ∨ y % 400 = 0) then 1 else 0
theorem leapB_iff (y : Int) : leapB y = true ↔ y % 4 = 0 ∧ (y % 100 ≠ 0 ∨ y % 400 = 0) := by simp [leapB]
theorem leapI_eq (y : Int) : leapI y = if leapB y then 1 else 0 := by
 unfold leapI
 by_cases h : leapB y = true
 · rw [if_pos ((leapB_iff y).1 h), if_pos h]
 · rw [if_neg (fun h' => h ((leapB_iff y).2 h')), if_neg h]
theorem leapI_01 (y : Int) : 0 ≤ leapI y ∧ leapI y ≤ 1 := by unfold leapI; split <;> omega
def dim (y m : Int) : Int :=
 if m < 1 ∨ 12 < m then 0 else if m = 2 then 28 + leapI y else if m = 4 ∨ m = 6 ∨ m = 9 ∨ m = 11 then 30 else 31
def cnt (y : Int) : Int := 365 * (y - 1970) + (y - 1) / 4 - (y - 1) / 100 + (y - 1) / 400 - 477
def cum (y m : Int) : Int :=
 if m ≤ 1 then 0 else if m = 2 then 31 else if m = 3 then 59 + leapI y else if m = 4 then 90 + leapI y else if m = 5 then 120 + leapI y else if m = 6 then 151 + leapI y
 else if m = 7 then 181 + leapI y else if m = 8 then 212 + leapI y else if m = 9 then 243 + leapI y else if m = 10 then 273 + leapI y else if m = 11 then 304 + leapI y else if m = 12 then 334 + leapI y else 365 + leapI y
def num (y m d : Int) : Int := cnt y + cum y m + d - 1
theorem cnt_succ (y : Int) : cnt (y + 1) = cnt y + 365 + leapI y := by
 unfold cnt leapI
 split <;> omega
theorem cnt_mono {a b : Int} (h : a ≤ b) : cnt a + 365 * (b - a) ≤ cnt b := by unfold cnt; omega
theorem cum_succ (y m : Int) (h1 : 1 ≤ m) (h2 : m ≤ 12) : cum y (m + 1) = cum y m + dim y m := by
 obtain rfl | rfl | rfl | rfl | rfl | rfl | rfl | rfl | rfl | rfl | rfl | rfl : m = 1 ∨ m = 2 ∨ m = 3 ∨ m = 4 ∨ m = 5 ∨ m = 6 ∨ m = 7 ∨ m = 8 ∨ m = 9 ∨ m = 10 ∨ m = 11 ∨ m = 12 := by omega
 all_goals (simp [cum, dim]; try omega)
theorem dim_range (y m : Int) : 0 ≤ dim y m ∧ dim y m ≤ 31 := by
 have := leapI_01 y
 unfold dim; repeat' split
 all_goals omega
theorem dim_pos (y m : Int) (h1 : 1 ≤ m) (h2 : m ≤ 12) : 28 ≤ dim y m := by
 have := leapI_01 y
 unfold dim; rw [if_neg (by omega)]; repeat' split
 all_goals omega
theorem cum_range (y m : Int) : 0 ≤ cum y m ∧ cum y m ≤ 366 := by
 have := leapI_01 y
 unfold cum; omega
theorem Leap_eq (y : Int) : civil_Leap y = some (leapB y) := by
 have e : (cond (Int.tmod y 4 == (0 : Int)) (cond (Int.tmod y 100 != (0 : Int)) true (Int.tmod y 400 == (0 : Int))) false) = leapB y := by
   unfold bne
   rw [tmod_zero, tmod_zero, tmod_zero, Bool.eq_iff_iff, leapB_iff]
   by_cases h1 : y % 4 = 0 <;> by_cases h2 : y % 100 = 0 <;> by_cases h3 : y % 400 = 0 <;> simp [h1, h2, h3]
 exact congrArg some e
theorem Days_eq (y m : Int) : civil_Days y m = some (dim y m) := by
 by_cases h : m < 1 ∨ 12 < m
 · have hc : cond (decide (m < (1 : Int))) true (decide (m > (12 : Int))) = true := by
     rcases h with h | h <;> by_cases h1 : m < 1 <;> simp [h1] <;> omega
   have : dim y m = 0 := if_pos h
   rw [this]
   unfold civil_Days
   rw [hc]; rfl
 · obtain rfl | rfl | rfl | rfl | rfl | rfl | rfl | rfl | rfl | rfl | rfl | rfl : m = 1 ∨ m = 2 ∨ m = 3 ∨ m = 4 ∨ m = 5 ∨ m = 6 ∨ m = 7 ∨ m = 8 ∨ m = 9 ∨ m = 10 ∨ m = 11 ∨ m = 12 := by omega
   case inr.inl =>
     simp only [civil_Days, Leap_eq, dim, leapI_eq, Option.bind_some]
     cases leapB y <;> rfl
   all_goals rfl
theorem Valid_eq (y m d : Int) : civil_Valid (y, m, d) = some (decide (1970 ≤ y ∧ y ≤ 2240 ∧ 1 ≤ d ∧ d ≤ dim y m)) := by
 simp only [civil_Valid, Days_eq, Option.bind_some]
 by_cases h1 : 1970 ≤ y <;> by_cases h2 : y ≤ 2240 <;> by_cases h3 : 1 ≤ d <;> simp [h1, h2, h3]
theorem floor_eq (a b : Int) (hb : 0 < b) (h1 : -1000000000000 ≤ a) (h2 : a ≤ 1000000000000) : civil_floor a b = some (a / b) := by
 have hb0 : (b == 0) = false := by simp; omega
 obtain ⟨e, p1, p2, p3, p4⟩ := tdm a b hb
 have hq : -1000000000000 ≤ Int.tdiv a b ∧ Int.tdiv a b ≤ 1000000000000 := by
   rcases Int.le_total 0 a with h | h
   · have h0 : 0 ≤ a / b := Int.ediv_nonneg h (by omega)
     have h3 : a / b ≤ a := Int.ediv_le_self b h
     rw [tdiv_nn h]; omega
   · have h0 : 0 ≤ (-a) / b := Int.ediv_nonneg (by omega) (by omega)
     have h3 : (-a) / b ≤ -a := Int.ediv_le_self b (by omega)
     have h4 : Int.tdiv (-a) b = (-a) / b := tdiv_nn (by omega)
     rw [Int.neg_tdiv] at h4; omega
 simp only [civil_floor, hb0, Bool.not_false, cond_true]
 rw [w64_in (x := Int.tdiv a b) (by omega) (by omega)]
 by_cases hm : Int.tmod a b < 0
 · rw [dec_true hm, cond_true, w64_in (by omega) (by omega)]
   congr 1
   have : a / b = Int.tdiv a b - 1 := by
     have h3 : a = (a.tmod b + b) + b * (Int.tdiv a b - 1) := by rw [Int.mul_sub]; omega
     rw [h3, Int.add_mul_ediv_left _ _ (by omega), Int.ediv_eq_zero_of_lt (by omega) (by omega)]
     rw [← h3]; omega
   omega
 · rw [dec_false hm, cond_false]
   congr 1
   have h3 : a = a.tmod b + b * Int.tdiv a b := by omega
   have : a / b = Int.tdiv a b := by
     conv => lhs; rw [h3]
     rw [Int.add_mul_ediv_left _ _ (by omega), Int.ediv_eq_zero_of_lt (by omega) (by omega)]
     omega
   omega
theorem count_eq (y : Int) (h1 : -1000000000 ≤ y) (h2 : y ≤ 1000000000) : civil_count y = some (cnt y) := by
 simp only [civil_count]
 rw [w64_in (x := y - 1) (by omega) (by omega), w64_in (x := y - 1970) (by omega) (by omega), floor_eq _ 4 (by omega) (by omega) (by omega), floor_eq _ 100 (by omega) (by omega) (by omega), floor_eq _ 400 (by omega) (by omega) (by omega)]
 simp only [Option.bind_some]
 simp (disch := omega) only [w64_in]
 rfl
theorem number_l0 (y m d : Int) (hm : m ≤ 13) : ∀ (n : Nat) (s k : Int), 1 ≤ k → k + n = m → -1000000000000 ≤ s → s + 31 * n ≤ 1000000000000 → civil_number_l0 s k y m d = some (s + cum y m - cum y k)
 | 0, s, k, hk, hn, _, _ => by
   rw [civil_number_l0_eq]
   have : k = m := by omega
   subst this
   simp only [civil_number_l0_step, dec_false (show ¬ k < k by omega), cond_false, lpK_inr]
   congr 1; omega
 | n + 1, s, k, hk, hn, h1, h2 => by
   rw [civil_number_l0_eq]
   have hd := dim_range y k
   have hc := cum_succ y k hk (by omega)
   simp only [civil_number_l0_step, Days_eq, Option.bind_some, dec_true (show k < m by omega), cond_true, lpK_inl]
   rw [w64_in (x := s + dim y k) (by omega) (by omega), w64_in (x := k + 1) (by omega) (by omega)]
   have ih := number_l0 y m d hm n (s + dim y k) (k + 1) (by omega) (by omega) (by omega) (by omega)
   rw [ih]
   congr 1; omega
theorem number_eq (y m d : Int) (h1 : -1000000 ≤ y) (h2 : y ≤ 1000000) (hm1 : 1 ≤ m) (hm2 : m ≤ 12) (hd1 : -1000000 ≤ d) (hd2 : d ≤ 1000000) : civil_number (y, m, d) = some (num y m d) := by
 have hb : -1000000000 ≤ cnt y ∧ cnt y ≤ 1000000000 := by unfold cnt; omega
 simp only [civil_number, count_eq y (by omega) (by omega), Option.bind_some]
 rw [w64_in (x := cnt y + d) (by omega) (by omega), w64_in (by omega) (by omega), number_l0 y m d (by omega) (m - 1).toNat _ 1 (by omega) (by omega) (by omega) (by omega)]
 have : cum y 1 = 0 := rfl
 simp only [Option.bind_some, num]
 congr 1; omega
theorem Weekday_eq (day : Int) : civil_Weekday day = some ((Int.tmod day 7 + 10) % 7) := by
 obtain ⟨e, p1, p2, p3, p4⟩ := tdm day 7 (by omega)
 simp only [civil_Weekday]
 rw [w64_in (by omega) (by omega), tmod_nn (by omega)]
theorem Weekday_nn (day : Int) (_h : -3 ≤ day) : civil_Weekday day = some ((day + 3) % 7) := by
 rw [Weekday_eq]
 congr 1
 obtain ⟨e, p1, p2, p3, p4⟩ := tdm day 7 (by omega)
 omega
def valid (y m d : Int) : Prop := 1970 ≤ y ∧ y ≤ 2240 ∧ 1 ≤ d ∧ d ≤ dim y m
instance (y m d : Int) : Decidable (valid y m d) := by unfold valid; infer_instance
theorem valid_month {y m d : Int} (h : valid y m d) : 1 ≤ m ∧ m ≤ 12 := by
 obtain ⟨_, _, h3, h4⟩ := h
 by_cases hm : m < 1 ∨ 12 < m
 · have : dim y m = 0 := if_pos hm
   omega
 · omega
theorem valid_iff {y m d : Int} : decide (1970 ≤ y ∧ y ≤ 2240 ∧ 1 ≤ d ∧ d ≤ dim y m) = decide (valid y m d) := rfl
theorem num_range {y m d : Int} (h : valid y m d) : 0 ≤ num y m d ∧ num y m d < 98981 := by
 have hm := valid_month h
 obtain ⟨h1, h2, h3, h4⟩ := h
 have hc := cum_range y m
 have c1 := cnt_mono (a := 1970) (b := y) (by omega)
 have c2 := cnt_mono (a := y) (b := 2240) (by omega)
 have e1 : cnt 1970 = 0 := by decide
 have hd := dim_range y m
 have e2 : cnt 2240 = 98615 := by decide
 have hcs : cum y m + dim y m ≤ 365 + leapI y := by
   have := cum_succ y m hm.1 hm.2
   have : cum y (m + 1) ≤ 365 + leapI y := by have := leapI_01 y; unfold cum; omega
   omega
 have c3 := cnt_succ y
 have c4 := cnt_mono (a := y + 1) (b := 2241) (by omega)
 have e3 : cnt 2241 = 98981 := by decide
 unfold num; omega
def nth (y m k w : Int) : Int :=
 let d := num y m 1 + (w - (num y m 1 + 3) % 7 + 7) % 7 + 7 * (k - 1)
 if d ≥ num y m 1 + dim y m then d - 7 else d
theorem dim_valid1 (y m : Int) (h1 : 1970 ≤ y) (h2 : y ≤ 2240) (hm1 : 1 ≤ m) (hm2 : m ≤ 12) : valid y m 1 := ⟨h1, h2, by omega, by have := dim_pos y m hm1 hm2; omega⟩
theorem Nth_ok (y m k w : Int) (h1 : 1970 ≤ y) (h2 : y ≤ 2240) (hm1 : 1 ≤ m) (hm2 : m ≤ 12) (hk1 : 1 ≤ k) (hk2 : k ≤ 5) (hw1 : 0 ≤ w) (hw2 : w ≤ 6) : civil_Nth y m k w = some (nth y m k w, 0) := by
 have hv := dim_valid1 y m h1 h2 hm1 hm2
 have hr := num_range hv
 have hd := dim_range y m
 have hVal : civil_Valid (y, m, 1) = some true := by rw [Valid_eq, valid_iff, decide_eq_true hv]
 simp only [civil_Nth, hVal, Option.bind_some, Bool.not_true, cond_false]
 rw [dec_false (show ¬ k < 1 by omega), dec_false (show ¬ k > 5 by omega), dec_false (show ¬ w < 0 by omega), dec_false (show ¬ w > 6 by omega)]
 simp only [cond_false, number_eq y m 1 (by omega) (by omega) hm1 hm2 (by omega) (by omega), Option.bind_some, Weekday_nn _ (show -3 ≤ num y m 1 by omega), Days_eq]
 generalize hn : num y m 1 = n at *
 have hm7 : 0 ≤ (n + 3) % 7 ∧ (n + 3) % 7 ≤ 6 := by omega
 rw [w64_in (x := w - (n + 3) % 7) (by omega) (by omega), w64_in (x := w - (n + 3) % 7 + 7) (by omega) (by omega), tmod_nn (show 0 ≤ w - (n + 3) % 7 + 7 by omega)]
 rw [w64_in (x := k - 1) (by omega) (by omega), w64_in (x := 7 * (k - 1)) (by omega) (by omega)]
 rw [w64_in (x := n + (w - (n + 3) % 7 + 7) % 7) (by omega) (by omega), w64_in (x := n + (w - (n + 3) % 7 + 7) % 7 + 7 * (k - 1)) (by omega) (by omega), w64_in (x := n + dim y m) (by omega) (by omega)]
 unfold nth
 simp only [hn]
 by_cases hc : n + (w - (n + 3) % 7 + 7) % 7 + 7 * (k - 1) ≥ n + dim y m
 · rw [dec_true hc, cond_true, if_pos hc, w64_in (by omega) (by omega)]
 · rw [dec_false hc, cond_false, if_neg hc]
end Go.Proofs.Pw
open Go Go.Lft
namespace Go.Proofs.Pw
def DOk (l : List Int) (a : Int) : Prop := 0 ≤ a ∧ a ≤ (l.length : Int) ∧ l.length ≤ 1000000
theorem Next_ok {l : List Int} {a n : Int} (h : DOk l a) (hn : 1 ≤ n) (hn2 : n ≤ 1000000000000) : ∃ x a', made_Dice_Next l a n = some (x, l, a') ∧ 0 ≤ x ∧ x < n ∧ DOk l a' := by
 obtain ⟨h1, h2, h3⟩ := h
 simp only [made_Dice_Next, show Int.ofNat (List.length l) = (l.length : Int) from rfl]
 by_cases ha : a ≥ (l.length : Int)
 · rw [dec_true ha, cond_true]
   exact ⟨0, a, rfl, by omega, by omega, h1, h2, h3⟩
 · rw [dec_false ha, cond_false, dec_false (show ¬ n < 1 by omega), cond_false, inR_t h1 (by omega), cond_true, beq_f (show n ≠ 0 by omega)]
   obtain ⟨e, p1, p2, p3, p4⟩ := tdm (l.getD a.toNat 0) n (by omega)
   rw [w64_in (x := a + 1) (by omega) (by omega)]
   simp only [Bool.not_false, cond_true]
   by_cases ht : Int.tmod (l.getD a.toNat 0) n < 0
   · rw [dec_true ht, cond_true, w64_in (by omega) (by omega)]
     exact ⟨_, _, rfl, by omega, by omega, by omega, by omega, h3⟩
   · rw [dec_false ht, cond_false]
     exact ⟨_, _, rfl, by omega, by omega, by omega, by omega, h3⟩
theorem Pick_ok {l : List Int} {a : Int} (h : DOk l a) {xs : List Int} (hx0 : 0 < xs.length) (hx1 : xs.length ≤ 1000000) : ∃ x a', made_Dice_Pick l a xs = some (x, l, a') ∧ x ∈ xs ∧ DOk l a' := by
 obtain ⟨x, a', e, h1, h2, h3⟩ := Next_ok (n := (xs.length : Int)) h (by omega) (by omega)
 simp only [made_Dice_Pick, show Int.ofNat (List.length xs) = (xs.length : Int) from rfl, e, Option.bind_some]
 rw [inR_t h1 (by omega), cond_true]
 have hlt : x.toNat < xs.length := by omega
 refine ⟨_, _, rfl, ?_, h3⟩
 rw [List.getD_eq_getElem?_getD, List.getElem?_eq_getElem hlt]
 exact List.getElem_mem hlt
end Go.Proofs.Pw
