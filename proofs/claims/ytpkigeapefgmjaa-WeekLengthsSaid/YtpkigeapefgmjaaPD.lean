/- Chapter 3: span.Merge: the least form of any spans. -/
import Derived.Test.YtpkigeapefgmjaaPA
import Derived.Test.YtpkigeapefgmjaaFns
import Derived.Test.YtpkigeapefgmjaaPC
open Go Go.Lft
namespace Go.Proofs.Pw

abbrev SL := List (Int × Int)

def inS (x : Int) (l : SL) : Prop := ∃ s ∈ l, s.1 ≤ x ∧ x < s.2
/-- Spans in order behind p, apart. -/
def StS (p : Int) : SL → Prop
  | [] => True
  | x :: r => p < x.1 ∧ x.1 < x.2 ∧ StS x.2 r
def Sml (l : SL) : Prop := ∀ s ∈ l, -1000000000000 ≤ s.1 ∧ s.1 ≤ 1000000000000 ∧ -1000000000000 ≤ s.2 ∧ s.2 ≤ 1000000000000

theorem inS_nil {x : Int} : ¬ inS x [] := by rintro ⟨s, hs, _⟩; simp at hs
theorem inS_cons {x : Int} {s : Int × Int} {l : SL} : inS x (s :: l) ↔ (s.1 ≤ x ∧ x < s.2) ∨ inS x l := by
  constructor
  · rintro ⟨u, hu, h⟩
    rcases List.mem_cons.1 hu with rfl | hu
    · exact Or.inl h
    · exact Or.inr ⟨u, hu, h⟩
  · rintro (h | ⟨u, hu, h⟩)
    · exact ⟨s, by simp, h⟩
    · exact ⟨u, by simp [hu], h⟩
theorem inS_app {x : Int} {l r : SL} : inS x (l ++ r) ↔ inS x l ∨ inS x r := by
  constructor
  · rintro ⟨u, hu, h⟩
    rcases List.mem_append.1 hu with hu | hu
    · exact Or.inl ⟨u, hu, h⟩
    · exact Or.inr ⟨u, hu, h⟩
  · rintro (⟨u, hu, h⟩ | ⟨u, hu, h⟩)
    · exact ⟨u, by simp [hu], h⟩
    · exact ⟨u, by simp [hu], h⟩

/-! Deleting the empty ones. -/

def nE (s : Int × Int) : Bool := !(decide (s.2 ≤ s.1))

theorem idx_lp {l : SL} (hl : l.length ≤ 1000000) : ∀ (n i : Nat), i + n = l.length → (∀ s ∈ l.take i, nE s = true) →
    (∃ j : Nat, slices_IndexFunc_api_Span_api_Span_l0 (l.length : Int) (i : Int) l = some (.inl ((j : Int), l)) ∧ j < l.length ∧ (∀ s ∈ l.take j, nE s = true) ∧ nE (l.getD j (0, 0)) = false) ∨
    (slices_IndexFunc_api_Span_api_Span_l0 (l.length : Int) (i : Int) l = some (.inr l) ∧ ∀ s ∈ l, nE s = true)
  | 0, i, hi, h => by
    rw [slices_IndexFunc_api_Span_api_Span_l0_eq]
    simp only [slices_IndexFunc_api_Span_api_Span_l0_step]
    rw [dec_false (by omega), cond_false, lpK_inr]
    rw [List.take_of_length_le (by omega)] at h
    exact Or.inr ⟨rfl, h⟩
  | n + 1, i, hi, h => by
    rw [slices_IndexFunc_api_Span_api_Span_l0_eq]
    simp only [slices_IndexFunc_api_Span_api_Span_l0_step, span_Merge_c1]
    rw [dec_true (show (i : Int) < (l.length : Int) by omega), inR_t (by omega) (by omega), w64_in (x := (i : Int) + 1) (by omega) (by omega)]
    simp only [cond_true, Int.toNat_natCast, Option.bind_some]
    have hlt : i < l.length := by omega
    cases hc : decide ((l.getD i ((0 : Int), (0 : Int))).2 ≤ (l.getD i ((0 : Int), (0 : Int))).1) with
    | true =>
      simp only [cond_true, lpK_inr]
      exact Or.inl ⟨i, rfl, hlt, h, by simp only [nE]; rw [hc]; rfl⟩
    | false =>
      simp only [cond_false, lpK_inl]
      refine idx_lp hl n (i + 1) (by omega) fun s hs => ?_
      rw [List.take_add_one] at hs
      rcases List.mem_append.1 hs with hs | hs
      · exact h s hs
      · have hgd : l.getD i ((0 : Int), (0 : Int)) = l[i] := by simp [hlt]
        rw [hgd] at hc
        rw [List.getElem?_eq_getElem hlt] at hs
        simp at hs; subst hs
        simp only [nE]; rw [hc]; rfl

theorem del_lp {l : SL} (hl : l.length ≤ 1000000) : ∀ (n i j : Nat) (b : SL), j + n = l.length → i ≤ j → b.length = l.length → b.drop j = l.drop j → b.take i = (l.take j).filter nE →
    ∃ (k : Nat) (b' : SL), slices_DeleteFunc_api_Span_api_Span_l0 (i : Int) (j : Int) b = some ((k : Int), b') ∧ b'.length = l.length ∧ k ≤ l.length ∧ b'.take k = l.filter nE
  | 0, i, j, b, hj, hij, hb, hd, ht => by
    rw [slices_DeleteFunc_api_Span_api_Span_l0_eq]
    simp only [slices_DeleteFunc_api_Span_api_Span_l0_step, show Int.ofNat (List.length b) = (b.length : Int) from rfl]
    rw [dec_false (by omega), cond_false, lpK_inr]
    rw [List.take_of_length_le (l := l) (by omega)] at ht
    exact ⟨i, b, rfl, hb, by omega, ht⟩
  | n + 1, i, j, b, hj, hij, hb, hd, ht => by
    have hlt : j < l.length := by omega
    have hbj : b.getD j ((0 : Int), (0 : Int)) = l[j] := by
      have : b[j]? = l[j]? := by
        have h := congrArg (fun x => x[0]?) hd
        simpa [List.getElem?_drop] using h
      rw [List.getD_eq_getElem?_getD, this, List.getElem?_eq_getElem hlt]; rfl
    have hd' : b.drop (j + 1) = l.drop (j + 1) := by
      have := congrArg (List.drop 1) hd
      simpa [List.drop_drop] using this
    have htk : l.take (j + 1) = l.take j ++ [l[j]] := by rw [List.take_add_one, List.getElem?_eq_getElem hlt]; rfl
    rw [slices_DeleteFunc_api_Span_api_Span_l0_eq]
    simp only [slices_DeleteFunc_api_Span_api_Span_l0_step, span_Merge_c1, show Int.ofNat (List.length b) = (b.length : Int) from rfl]
    rw [dec_true (show (j : Int) < (b.length : Int) by omega), inR_t (by omega) (by omega), inR_t (by omega) (by omega), w64_in (x := (j : Int) + 1) (by omega) (by omega), w64_in (x := (i : Int) + 1) (by omega) (by omega)]
    simp only [cond_true, Int.toNat_natCast, Option.bind_some, hbj]
    cases hc : decide (l[j].2 ≤ l[j].1) with
    | true =>
      simp only [Bool.not_true, cond_false, lpK_inl]
      refine del_lp hl n i (j + 1) b (by omega) (by omega) hb hd' ?_
      rw [htk, List.filter_append, ht]
      simp [nE, hc]
    | false =>
      simp only [Bool.not_false, cond_true, lpK_inl]
      refine del_lp hl n (i + 1) (j + 1) _ (by omega) (by omega) (by simpa using hb) ?_ ?_
      · rw [List.drop_set_of_lt (by omega)]; exact hd'
      · have hib : i < b.length := by omega
        rw [List.take_add_one, List.take_set_of_le (Nat.le_refl _), List.getElem?_set_self hib, ht, htk, List.filter_append]
        simp [nE, hc]

theorem Delete_ok {l : SL} (hl : l.length ≤ 1000000) : ∃ n m, slices_DeleteFunc_api_Span_api_Span l = some (n, m) ∧ m.take n.toNat = l.filter nE := by
  simp only [slices_DeleteFunc_api_Span_api_Span, slices_IndexFunc_api_Span_api_Span, show Int.ofNat (List.length l) = (l.length : Int) from rfl]
  rcases idx_lp hl l.length 0 (by omega) (by simp) with ⟨j, e, hj, h1, h2⟩ | ⟨e, h⟩
  · rw [show ((0 : Nat) : Int) = 0 from rfl] at e
    rw [e]
    simp only [Option.bind_some, sumC_inl]
    rw [beq_f (by omega), w64_in (x := (j : Int) + 1) (by omega) (by omega)]
    have hgd : l.getD j ((0 : Int), (0 : Int)) = l[j] := by simp [hj]
    rw [hgd] at h2
    obtain ⟨k, b, e2, hb, hk, ht⟩ := del_lp hl (l.length - (j + 1)) j (j + 1) l (by omega) (by omega) rfl rfl (by
      rw [List.take_add_one, List.getElem?_eq_getElem hj, List.filter_append, List.filter_eq_self.2 h1]
      simp [h2])
    rw [show ((j : Int) + 1) = ((j + 1 : Nat) : Int) from rfl, e2]
    simp only [cond_false, Option.bind_some, show Int.ofNat (List.length b) = (b.length : Int) from rfl, Int.toNat_natCast]
    rw [dec_true (show (0 : Int) ≤ (k : Int) by omega), dec_true (show (k : Int) ≤ (b.length : Int) by omega)]
    simp only [Bool.and_self, cond_true, Bool.true_and]
    rw [dec_true (by simp; omega), cond_true]
    refine ⟨_, _, rfl, ?_⟩
    simp only [show (Int.ofNat k).toNat = k from rfl]
    rw [List.take_append_of_le_length (by simp; omega), List.take_take, Nat.min_self, ht]
  · rw [show ((0 : Nat) : Int) = 0 from rfl] at e
    rw [e]
    simp only [Option.bind_some, sumC_inr, beq_self_eq_true, cond_true]
    refine ⟨_, _, rfl, ?_⟩
    simp only [show (Int.ofNat l.length).toNat = l.length from rfl]
    rw [List.take_of_length_le (Nat.le_refl _), List.filter_eq_self.2 h]

/-! Joining. -/

def mg1 (e : Int × Int) : SL → SL
  | [] => [e]
  | s :: r => if s.1 ≤ e.2 then mg1 (e.1, if s.2 > e.2 then s.2 else e.2) r else e :: mg1 s r
def mg : SL → SL
  | [] => []
  | s :: r => mg1 s r

theorem mg_lp {L : SL} (hL : L.length ≤ 1000000) : ∀ (n i : Nat) (A : SL) (e : Int × Int), i + n = L.length → A.length < i →
    span_Merge_l0 (L.length : Int) (i : Int) (A ++ [e]) L = some (A ++ mg1 e (L.drop i))
  | 0, i, A, e, hi, hA => by
    rw [span_Merge_l0_eq]
    simp only [span_Merge_l0_step]
    rw [dec_false (by omega), cond_false, lpK_inr, List.drop_of_length_le (by omega)]
    rfl
  | n + 1, i, A, e, hi, hA => by
    have hlt : i < L.length := by omega
    have hgd : L.getD i ((0 : Int), (0 : Int)) = L[i] := by simp [hlt]
    have hle : (A ++ [e]).length = A.length + 1 := by simp
    have hge : (A ++ [e]).getD A.length ((0 : Int), (0 : Int)) = e := by simp
    rw [span_Merge_l0_eq, List.drop_eq_getElem_cons hlt]
    simp only [span_Merge_l0_step, mg1, show Int.ofNat (List.length (A ++ [e])) = ((A.length : Int) + 1) from by rw [hle]; rfl]
    rw [dec_true (show (i : Int) < (L.length : Int) by omega), inR_t (by omega) (by omega), dec_true (show (A.length : Int) + 1 > 0 by omega), w64_in (x := (A.length : Int) + 1 - 1) (by omega) (by omega), w64_in (x := (i : Int) + 1) (by omega) (by omega),
      inR_t (by omega) (by rw [hle]; omega), show ((A.length : Int) + 1 - 1).toNat = A.length by omega]
    simp only [cond_true, Int.toNat_natCast, hgd, hge]
    by_cases hc : L[i].1 ≤ e.2
    · rw [dec_true hc, if_pos hc]
      simp only [cond_true, lpK_inl]
      rw [show (A ++ [e]).set A.length (e.1, if L[i].2 > e.2 then L[i].2 else e.2) = A ++ [(e.1, if L[i].2 > e.2 then L[i].2 else e.2)] by
        rw [List.set_append_right _ _ (Nat.le_refl _)]; simp]
      exact mg_lp hL n (i + 1) A _ (by omega) (by omega)
    · rw [dec_false hc, if_neg hc, dec_true (by rw [hle]; simp [sizeMax]; omega)]
      simp only [cond_false, cond_true, lpK_inl]
      have := mg_lp hL n (i + 1) (A ++ [e]) L[i] (by omega) (by rw [hle]; omega)
      rw [show A ++ e :: mg1 L[i] (L.drop (i + 1)) = A ++ [e] ++ mg1 L[i] (L.drop (i + 1)) by simp]
      exact this

theorem mg_ok {L : SL} (hL : L.length ≤ 1000000) : span_Merge_l0 (L.length : Int) 0 [] L = some (mg L) := by
  rw [span_Merge_l0_eq]
  simp only [span_Merge_l0_step]
  cases L with
  | nil => rw [dec_false (by simp), cond_false, lpK_inr]; rfl
  | cons s r =>
    rw [dec_true (show (0 : Int) < ((s :: r).length : Int) by simp only [List.length_cons]; omega), inR_t (by omega) (by simp only [List.length_cons]; omega)]
    simp only [cond_true, show Int.ofNat (List.length ([] : SL)) = 0 from rfl]
    rw [dec_false (show ¬ ((0 : Int) > 0) by omega), cond_false, dec_true (by simp [sizeMax]), w64_in (x := (0 : Int) + 1) (by omega) (by omega)]
    simp only [cond_true, lpK_inl]
    have := mg_lp hL r.length 1 [] s (by simp; omega) (by simp)
    simpa [mg] using this

/-- What is sorted, none empty. -/
def Srt : SL → Prop
  | [] => True
  | s :: r => (∀ u ∈ r, s.1 ≤ u.1) ∧ Srt r

theorem mg1_st : ∀ {r : SL} {e : Int × Int} {p : Int}, p < e.1 → e.1 < e.2 → (∀ s ∈ r, nE s = true) → Srt r → StS p (mg1 e r)
  | [], e, p, h1, h2, _, _ => ⟨h1, h2, trivial⟩
  | s :: r, e, p, h1, h2, h3, h4 => by
    simp only [mg1]
    have hs : s.1 < s.2 := by have := h3 s (by simp); simp [nE] at this; omega
    split
    · exact mg1_st (by exact h1) (by dsimp only; split <;> omega) (fun u hu => h3 u (by simp [hu])) h4.2
    · exact ⟨h1, h2, mg1_st (by omega) hs (fun u hu => h3 u (by simp [hu])) h4.2⟩

theorem mg1_in {x : Int} : ∀ {r : SL} {e : Int × Int}, (∀ s ∈ r, e.1 ≤ s.1) → (∀ s ∈ r, nE s = true) → Srt r → (inS x (mg1 e r) ↔ (e.1 ≤ x ∧ x < e.2) ∨ inS x r)
  | [], e, _, _, _ => by simp [mg1, inS]
  | s :: r, e, h1, h3, h4 => by
    have hs : s.1 < s.2 := by have := h3 s (by simp); simp [nE] at this; omega
    have he : e.1 ≤ s.1 := h1 s (by simp)
    simp only [mg1]
    split
    · rw [mg1_in (e := (e.1, if s.2 > e.2 then s.2 else e.2)) (fun u hu => h1 u (by simp [hu])) (fun u hu => h3 u (by simp [hu])) h4.2, inS_cons]
      dsimp only
      constructor
      · rintro (⟨a, b⟩ | h)
        · split at b
          · by_cases hx : x < e.2
            · exact Or.inl ⟨a, hx⟩
            · exact Or.inr (Or.inl ⟨by omega, b⟩)
          · exact Or.inl ⟨a, b⟩
        · exact Or.inr (Or.inr h)
      · rintro (⟨a, b⟩ | ⟨a, b⟩ | h)
        · exact Or.inl ⟨a, by split <;> omega⟩
        · exact Or.inl ⟨by omega, by split <;> omega⟩
        · exact Or.inr h
    · rw [inS_cons, mg1_in h4.1 (fun u hu => h3 u (by simp [hu])) h4.2, inS_cons]

theorem mg1_len : ∀ (r : SL) (e : Int × Int), (mg1 e r).length ≤ r.length + 1
  | [], e => by simp [mg1]
  | s :: r, e => by
    simp only [mg1]
    split
    · have := mg1_len r (e.1, if s.2 > e.2 then s.2 else e.2); simp only [List.length_cons]; omega
    · have := mg1_len r s; simp only [List.length_cons]; omega

theorem mg1_bd {lo hi : Int} : ∀ {r : SL} {e : Int × Int}, (lo ≤ e.1 ∧ e.2 ≤ hi) → (∀ s ∈ r, lo ≤ s.1 ∧ s.2 ≤ hi) → ∀ u ∈ mg1 e r, lo ≤ u.1 ∧ u.2 ≤ hi
  | [], e, h1, h2 => by simp only [mg1]; intro u hu; simp at hu; subst hu; exact h1
  | s :: r, e, h1, h2 => by
    have hs := h2 s (by simp)
    simp only [mg1]
    split
    · exact mg1_bd ⟨h1.1, by dsimp only; split <;> omega⟩ (fun u hu => h2 u (by simp [hu]))
    · intro u hu
      rcases List.mem_cons.1 hu with rfl | hu
      · exact h1
      · exact mg1_bd hs (fun u hu => h2 u (by simp [hu])) u hu

theorem srt_of {L : SL} (h : L.Pairwise (fun x y => ¬ w64 (y.1 - x.1) < 0)) (hb : Sml L) : Srt L := by
  induction L with
  | nil => trivial
  | cons s r ih =>
    rw [List.pairwise_cons] at h
    refine ⟨fun u hu => ?_, ih h.2 (fun v hv => hb v (by simp [hv]))⟩
    have h1 := h.1 u hu
    have h2 := hb s (by simp)
    have h3 := hb u (by simp [hu])
    rw [w64_in (x := u.1 - s.1) (by omega) (by omega)] at h1
    omega

theorem sort_swo : Go.Sort.SWO (Go.Proofs.ltOf fun (x y : Go.Lft.Sml (.pair (.int .i64) (.int .i64))) => (span_Merge_c2 x.1 y.1).getD 0) := by
  refine swo_sub (fun x => x.1.1) (fun x => ?_) _ fun x y => rfl
  have := x.2
  simp only [smallT, Bool.and_eq_true, decide_eq_true_eq] at this
  exact this.1

theorem Sort_ok {l : SL} (hl : l.length ≤ 1000000) (hb : Sml l) : ∃ L, slices_SortFunc_api_Span_api_Span_119 l = some L ∧ L.Perm l ∧ Srt L := by
  obtain ⟨L, e, hp, hs⟩ := sortP_ok (a := .pair (.int .i64) (.int .i64)) (cf := fun x y => (span_Merge_c2 x y).getD 0) sort_swo (xs := l) (fun x hx => by
    have := hb x hx
    simp only [smallT, Bool.and_eq_true, decide_eq_true_eq]
    refine ⟨⟨?_, ?_⟩, ⟨?_, ?_⟩⟩
    · exact Int.le_trans (by decide) this.1
    · exact Int.le_trans this.2.1 (by decide)
    · exact Int.le_trans (by decide) this.2.2.1
    · exact Int.le_trans this.2.2.2 (by decide)) (by show List.length l < _; omega)
  exact ⟨L, e, hp, srt_of hs fun s hm => hb s (hp.mem_iff.1 hm)⟩

theorem Merge_ok {l : SL} (hl : l.length ≤ 1000000) (hb : Sml l) {lo hi : Int} (hlo : ∀ s ∈ l, s.1 < s.2 → lo ≤ s.1 ∧ s.2 ≤ hi) :
    ∃ out, span_Merge l = some out ∧ StS (lo - 1) out ∧ (∀ x, inS x out ↔ inS x l) ∧ out.length ≤ l.length ∧ ∀ u ∈ out, lo ≤ u.1 ∧ u.2 ≤ hi := by
  obtain ⟨n, m, e1, ht⟩ := Delete_ok hl
  have hfl : (l.filter nE).length ≤ l.length := List.length_filter_le _ _
  obtain ⟨L, e2, hp, hs⟩ := Sort_ok (l := l.filter nE) (by omega) (fun s h => hb s (List.mem_filter.1 h).1)
  have hLl : L.length = (l.filter nE).length := hp.length_eq
  have hLm : ∀ s, s ∈ L ↔ s ∈ l ∧ nE s = true := fun s => hp.mem_iff.trans List.mem_filter
  have hLx : ∀ x, inS x L ↔ inS x l := by
    intro x
    constructor
    · rintro ⟨s, h, h2⟩; exact ⟨s, ((hLm s).1 h).1, h2⟩
    · rintro ⟨s, h, h2⟩; exact ⟨s, (hLm s).2 ⟨h, by simp only [nE]; rw [dec_false (by omega)]; rfl⟩, h2⟩
  have hne : ∀ s ∈ L, s.1 < s.2 := fun s h => by have := ((hLm s).1 h).2; simp [nE] at this; omega
  refine ⟨mg L, ?_, ?_⟩
  · simp only [span_Merge, slices_Clone_api_Span_api_Span]
    rw [dec_true (by simp [sizeMax]; omega)]
    simp only [cond_true, Option.bind_some, List.nil_append, e1, ht, e2, show Int.ofNat (List.length L) = (L.length : Int) from rfl, mg_ok (L := L) (by omega)]
  · cases L with
    | nil =>
      refine ⟨trivial, fun x => hLx x, by simp [mg], by simp [mg]⟩
    | cons s r =>
      have h0 := hlo s ((hLm s).1 (by simp)).1 (hne s (by simp))
      have hr : ∀ u ∈ r, nE u = true := fun u hu => ((hLm u).1 (by simp [hu])).2
      refine ⟨mg1_st (by omega) (hne s (by simp)) hr hs.2, fun x => ?_, ?_, ?_⟩
      · rw [← hLx x, inS_cons]
        exact mg1_in hs.1 hr hs.2
      · have := mg1_len r s
        simp only [mg, List.length_cons] at *
        omega
      · exact mg1_bd h0 fun u hu => hlo u ((hLm u).1 (by simp [hu])).1 (hne u (by simp [hu]))
end Go.Proofs.Pw

/- Chapter 5: week.TimesOf and week.Times: the instants of a range whose second of the week is in a window. -/
open Go Go.Lft
namespace Go.Proofs.Pw

/-! The pieces of a range. -/

def pcf (o : Int) (l : TrL) (a b : Int) (k : Nat) : Nat → List (Int × (Int × Int))
  | 0 => []
  | n + 1 => if frm l (k + 1) < b then (a, (frm l (k + 1), tof o l k)) :: pcf o l (frm l (k + 1)) b (k + 1) n else [(a, (b, tof o l k))]

section
variable {o : Int} {l : TrL} (h : TOk o l)
include h

theorem PcR_lp {b : Int} (hb : b ≤ 8589934592) : ∀ (n k : Nat) (a : Int) (acc : List (Int × (Int × Int))), k + n = l.length + 1 → k ≤ l.length → frm l k ≤ a → a < frm l (k + 1) → a < b → acc.length ≤ k →
    zone_Table_Pieces_l0 a b o l acc = some (acc ++ pcf o l a b k n)
  | 0, k, a, acc, hn, hk, _, _, _, _ => by omega
  | n + 1, k, a, acc, hn, hk, h1, h2, hab, ha => by
    have hlen := h.len
    rw [zone_Table_Pieces_l0_eq]
    simp only [zone_Table_Pieces_l0_step, show Int.ofNat (List.length l) = (l.length : Int) from rfl, pcf]
    rw [dec_true hab]
    simp only [cond_true, after_ok h hk h1 h2, before_ok h hk, Option.bind_some]
    by_cases hkl : k < l.length
    · have hf : frm l (k + 1) = (l.getD k ((0 : Int), (0 : Int))).1 := frm_s hkl
      rw [dec_true (show (k : Int) < (l.length : Int) by omega), inR_t (by omega) (by omega)]
      simp only [cond_true, Int.toNat_natCast, ← hf]
      rw [dec_true (by simp [sizeMax]; omega), cond_true, lpK_inl]
      by_cases hc : frm l (k + 1) < b
      · rw [if_pos hc, if_pos hc]
        have := PcR_lp hb n (k + 1) (frm l (k + 1)) (acc ++ [(a, (frm l (k + 1), tof o l k))]) (by omega) (by omega) (by omega) (h.frm_lt (by omega)) hc (by simp; omega)
        rw [List.append_assoc] at this
        exact this
      · rw [if_neg hc, if_neg hc]
        rw [zone_Table_Pieces_l0_eq]
        simp only [zone_Table_Pieces_l0_step]
        rw [dec_false (by omega), cond_false, lpK_inr]
    · have hkk : k = l.length := by omega
      have hf : frm l (k + 1) = 8589934593 := by rw [hkk]; exact frm_end
      rw [if_neg (show ¬ frm l (k + 1) < b by omega), dec_false (by omega), cond_false, dec_true (by simp [sizeMax]; omega), cond_true, lpK_inl]
      rw [zone_Table_Pieces_l0_eq]
      simp only [zone_Table_Pieces_l0_step]
      rw [dec_false (by omega), cond_false, lpK_inr]

omit h in
theorem pcf_len : ∀ (n k : Nat) (a b : Int), (pcf o l a b k n).length ≤ n
  | 0, k, a, b => by simp [pcf]
  | n + 1, k, a, b => by
    simp only [pcf]
    split
    · have := pcf_len n (k + 1) (frm l (k + 1)) b; simp; omega
    · simp

/-- Every piece: its ends, its offset. -/
theorem pcf_mem {b : Int} : ∀ (n k : Nat) (a : Int), k + n = l.length + 1 → frm l k ≤ a → a < frm l (k + 1) → a < b →
    ∀ p ∈ pcf o l a b k n, a ≤ p.1 ∧ p.1 < p.2.1 ∧ p.2.1 ≤ b ∧ ∃ i, k ≤ i ∧ i ≤ l.length ∧ p.2.2 = tof o l i ∧ frm l i ≤ p.1 ∧ p.2.1 ≤ frm l (i + 1)
  | 0, k, a, hn, h1, h2, hab, p, hp => by simp [pcf] at hp
  | n + 1, k, a, hn, h1, h2, hab, p, hp => by
    simp only [pcf] at hp
    split at hp
    · rename_i hc
      rcases List.mem_cons.1 hp with rfl | hp
      · exact ⟨Int.le_refl _, h2, by dsimp only; omega, k, Nat.le_refl _, by omega, rfl, h1, Int.le_refl _⟩
      · cases n with
        | zero => simp [pcf] at hp
        | succ n =>
        obtain ⟨a1, a2, a3, i, i1, i2, i3⟩ := pcf_mem (n + 1) (k + 1) (frm l (k + 1)) (by omega) (Int.le_refl _) (h.frm_lt (by omega)) hc p hp
        exact ⟨by omega, a2, a3, i, by omega, i2, i3⟩
    · rename_i hc
      simp at hp; subst hp
      exact ⟨Int.le_refl _, hab, Int.le_refl _, k, Nat.le_refl _, by omega, rfl, h1, by dsimp only; omega⟩

theorem pcf_cov {b : Int} (hb : b ≤ 8589934592) : ∀ (n k : Nat) (a : Int), k + n = l.length + 1 → k ≤ l.length → frm l k ≤ a → a < frm l (k + 1) → a < b →
    ∀ x, a ≤ x → x < b → ∃ p ∈ pcf o l a b k n, p.1 ≤ x ∧ x < p.2.1
  | 0, k, a, hn, hk, h1, h2, hab, x, hx, hx2 => by omega
  | n + 1, k, a, hn, hk, h1, h2, hab, x, hx, hx2 => by
    simp only [pcf]
    split
    · rename_i hc
      by_cases hlt : x < frm l (k + 1)
      · exact ⟨_, List.mem_cons_self .., hx, hlt⟩
      · have hkl : k + 1 ≤ l.length := by
          rcases Nat.lt_or_ge k l.length with h' | h'
          · exact h'
          · have : k = l.length := by omega
            subst this
            rw [frm_end] at hc; omega
        obtain ⟨p, hp, hp2⟩ := pcf_cov hb n (k + 1) (frm l (k + 1)) (by omega) hkl (Int.le_refl _) (h.frm_lt hkl) hc x (by omega) hx2
        exact ⟨p, by simp [hp], hp2⟩
    · exact ⟨_, List.mem_cons_self .., hx, hx2⟩

theorem PcR_ok {a b : Int} (ha : 0 ≤ a) (hab : a ≤ b) (hb : b ≤ 8589934592) : ∃ ps, zone_Table_Pieces (o, l) a b = some ps ∧ ps.length ≤ l.length + 1 ∧
    (∀ p ∈ ps, a ≤ p.1 ∧ p.1 < p.2.1 ∧ p.2.1 ≤ b ∧ ∃ i, i ≤ l.length ∧ p.2.2 = tof o l i ∧ frm l i ≤ p.1 ∧ p.2.1 ≤ frm l (i + 1)) ∧ ∀ x, a ≤ x → x < b → ∃ p ∈ ps, p.1 ≤ x ∧ x < p.2.1 := by
  simp only [zone_Table_Pieces]
  rcases Int.lt_or_le a b with hlt | hge
  · obtain ⟨k, hk, h1, h2⟩ := ex_piece h ha (by omega)
    have := PcR_lp h hb (l.length + 1 - k) k a [] (by omega) hk h1 h2 hlt (by simp)
    rw [List.nil_append] at this
    rw [this]
    refine ⟨_, rfl, ?_, fun p hp => ?_, pcf_cov h hb _ k a (by omega) hk h1 h2 hlt⟩
    · have := pcf_len (o := o) (l := l) (l.length + 1 - k) k a b; omega
    · obtain ⟨a1, a2, a3, i, _, i2⟩ := pcf_mem h _ k a (by omega) h1 h2 hlt p hp
      exact ⟨a1, a2, a3, i, i2⟩
  · rw [zone_Table_Pieces_l0_eq]
    simp only [zone_Table_Pieces_l0_step]
    rw [dec_false (by omega), cond_false, lpK_inr]
    exact ⟨[], rfl, by simp, by simp, fun x h1 h2 => by omega⟩
end

/-! The windows of one week, of one piece, of all. -/

def ent (f t st : Int) (v : Int × Int) : Int × Int := (if st + v.1 > f then st + v.1 else f, if st + v.2 < t then st + v.2 else t)

theorem has_iff {s : Int} : ∀ {w : WL}, hasB s w = true ↔ ∃ v ∈ w, v.1 ≤ s ∧ s < v.2
  | [] => by simp [hasB]
  | x :: r => by
    simp only [hasB, List.mem_cons]
    cases hc : cond (decide (x.1 ≤ s)) (decide (s < x.2)) false with
    | true =>
      simp only [cond_true, true_iff]
      refine ⟨x, Or.inl rfl, ?_⟩
      by_cases h1 : x.1 ≤ s
      · rw [dec_true h1, cond_true] at hc; exact ⟨h1, of_decide_eq_true hc⟩
      · rw [dec_false h1, cond_false] at hc; simp at hc
    | false =>
      simp only [cond_false]
      rw [has_iff (w := r)]
      constructor
      · rintro ⟨v, hv, h⟩; exact ⟨v, Or.inr hv, h⟩
      · rintro ⟨v, rfl | hv, h⟩
        · rw [dec_true h.1, dec_true h.2] at hc; simp at hc
        · exact ⟨v, hv, h⟩

theorem T4_lp {w : WL} (hw : WOk 0 w) (hl : w.length ≤ 14) {st f t q : Int} (hst : -1000000 ≤ st) (hst2 : st ≤ 8600000000) (a b : Int) (ps : List (Int × (Int × Int))) : ∀ (n i : Nat) (acc : SL), i + n = w.length → acc.length + n ≤ 1000000 →
    week_TimesOf_l4 w st a b w (w.length : Int) (i : Int) f t q acc ps = some (w, st, a, b, f, t, q, acc ++ (w.drop i).map (ent f t st), ps)
  | 0, i, acc, hi, _ => by
    rw [week_TimesOf_l4_eq]
    simp only [week_TimesOf_l4_step]
    rw [dec_false (by omega), cond_false, lpK_inr, List.drop_of_length_le (by omega)]
    simp
  | n + 1, i, acc, hi, ha => by
    have hlt : i < w.length := by omega
    have hgd : w.getD i ((0 : Int), (0 : Int)) = w[i] := by simp [hlt]
    have hg := wok_get hw i hlt
    rw [hgd] at hg
    rw [week_TimesOf_l4_eq, List.drop_eq_getElem_cons hlt]
    simp only [week_TimesOf_l4_step]
    rw [dec_true (show (i : Int) < (w.length : Int) by omega), inR_t (by omega) (by omega)]
    simp only [cond_true, Int.toNat_natCast, hgd]
    rw [w64_in (x := (i : Int) + 1) (by omega) (by omega), w64_in (x := st + w[i].1) (by omega) (by omega), w64_in (x := st + w[i].2) (by omega) (by omega), dec_true (by simp [sizeMax]; omega), cond_true, lpK_inl]
    have := T4_lp hw hl hst hst2 a b ps n (i + 1) (acc ++ [ent f t st w[i]]) (by omega) (by simp; omega) (f := f) (t := t) (q := q)
    rw [List.append_assoc] at this
    exact this

theorem T2_lp {w : WL} (hw : WOk 0 w) (hl : w.length ≤ 14) {f t q : Int} (hf : 0 ≤ f) (ht : t ≤ 8589934592) (hft : f < t) (a b : Int) (ps : List (Int × (Int × Int))) : ∀ (m : Nat) (st : Int) (acc : SL), -1000000 ≤ st → t ≤ st + 604800 * m → acc.length + 14 * m ≤ 900000 →
    ∃ E, week_TimesOf_l2 w st a b f t q acc ps = some (w, a, b, acc ++ E, ps) ∧ E.length ≤ w.length * m ∧ (∀ s ∈ E, f ≤ s.1 ∧ s.2 ≤ t ∧ s.1 ≤ 100000000000 ∧ -100000000000 ≤ s.2) ∧
      ∀ x, inS x E ↔ f ≤ x ∧ x < t ∧ st ≤ x ∧ hasB ((x - st) % 604800) w = true := by
  intro m
  induction m with
  | zero =>
    intro st acc hst hm _
    rw [week_TimesOf_l2_eq]
    simp only [week_TimesOf_l2_step]
    rw [dec_false (by omega), cond_false, lpK_inr]
    exact ⟨[], by simp, by simp, by simp, fun x => ⟨fun h => absurd h inS_nil, fun h => by omega⟩⟩
  | succ m ih =>
    intro st acc hst hm hacc
    rw [week_TimesOf_l2_eq]
    simp only [week_TimesOf_l2_step, show Int.ofNat (List.length w) = (w.length : Int) from rfl]
    by_cases hlt : st < t
    · have h4 := T4_lp hw hl hst (by omega) a b ps w.length 0 acc (by omega) (by omega) (f := f) (t := t) (q := q)
      rw [show ((0 : Nat) : Int) = 0 from rfl, List.drop_zero] at h4
      rw [dec_true hlt, cond_true, h4]
      simp only [Option.bind_some]
      rw [w64_in (x := st + 604800) (by omega) (by omega), lpK_inl]
      obtain ⟨E, e, h1, h2, h3⟩ := ih (st + 604800) (acc ++ w.map (ent f t st)) (by omega) (by omega) (by simp; omega)
      refine ⟨w.map (ent f t st) ++ E, ?_, ?_, ?_, fun x => ?_⟩
      · rw [List.append_assoc] at e; exact e
      · rw [List.length_append, List.length_map, Nat.mul_succ]; omega
      · intro s hs
        rcases List.mem_append.1 hs with hs | hs
        · obtain ⟨v, hv, rfl⟩ := List.mem_map.1 hs
          obtain ⟨i, hi, rfl⟩ := List.getElem_of_mem hv
          have hg := wok_get hw i hi
          rw [show w.getD i (0, 0) = w[i] by simp [hi]] at hg
          simp only [ent]
          refine ⟨?_, ?_, ?_, ?_⟩ <;> split <;> omega
        · exact h2 s hs
      · rw [inS_app, h3 x]
        constructor
        · rintro (⟨s, hs, hx1, hx2⟩ | ⟨a1, a2, a3, a4⟩)
          · obtain ⟨v, hv, rfl⟩ := List.mem_map.1 hs
            have hv' := hv
            obtain ⟨i, hi, rfl⟩ := List.getElem_of_mem hv
            have hg := wok_get hw i hi
            rw [show w.getD i (0, 0) = w[i] by simp [hi]] at hg
            simp only [ent] at hx1 hx2
            have b1 : f ≤ x ∧ st + w[i].1 ≤ x := by split at hx1 <;> omega
            have b2 : x < t ∧ x < st + w[i].2 := by split at hx2 <;> omega
            refine ⟨b1.1, b2.1, by omega, has_iff.2 ⟨w[i], hv', ?_, ?_⟩⟩ <;> omega
          · refine ⟨a1, a2, by omega, ?_⟩
            rw [show (x - st) % 604800 = (x - (st + 604800)) % 604800 by omega]; exact a4
        · rintro ⟨a1, a2, a3, a4⟩
          by_cases hx : st + 604800 ≤ x
          · refine Or.inr ⟨a1, a2, hx, ?_⟩
            rw [show (x - (st + 604800)) % 604800 = (x - st) % 604800 by omega]; exact a4
          · obtain ⟨v, hv, c1, c2⟩ := has_iff.1 a4
            have e1 : (x - st) % 604800 = x - st := by omega
            rw [e1] at c1 c2
            refine Or.inl ⟨ent f t st v, List.mem_map.2 ⟨v, hv, rfl⟩, ?_, ?_⟩ <;> simp only [ent] <;> split <;> omega
    · rw [dec_false hlt, cond_false, lpK_inr]
      exact ⟨[], by simp, by simp, by simp, fun x => ⟨fun h => absurd h inS_nil, fun h => by omega⟩⟩

theorem T0_lp {w : WL} (hw : WOk 0 w) (hl : w.length ≤ 14) {ps : List (Int × (Int × Int))} {M : Nat} (hM : M ≤ 60) (hpl : ps.length ≤ 30) {lo hi : Int} (hlo : 0 ≤ lo) (hhi : hi ≤ 8589934592)
    (hps : ∀ p ∈ ps, lo ≤ p.1 ∧ p.1 < p.2.1 ∧ p.2.1 ≤ hi ∧ -64800 ≤ p.2.2 ∧ p.2.2 ≤ 64800 ∧ p.2.1 - p.1 ≤ 604800 * M) : ∀ (n i : Nat) (acc : SL), i + n = ps.length → acc.length ≤ 854 * i →
    ∃ E, week_TimesOf_l0 w (ps.length : Int) (i : Int) acc ps = some (acc ++ E) ∧ E.length ≤ w.length * (M + 1) * n ∧ (∀ s ∈ E, lo ≤ s.1 ∧ s.2 ≤ hi ∧ s.1 ≤ 100000000000 ∧ -100000000000 ≤ s.2) ∧
      ∀ x, inS x E ↔ ∃ p ∈ ps.drop i, p.1 ≤ x ∧ x < p.2.1 ∧ hasB ((x + p.2.2 + 259200) % 604800) w = true
  | 0, i, acc, hi, _ => by
    rw [week_TimesOf_l0_eq]
    simp only [week_TimesOf_l0_step]
    rw [dec_false (by omega), cond_false, lpK_inr, List.drop_of_length_le (by omega)]
    exact ⟨[], by simp, by simp, by simp, fun x => ⟨fun h => absurd h inS_nil, fun ⟨p, hp, _⟩ => by simp at hp⟩⟩
  | n + 1, i, acc, hi, hacc => by
    have hlt : i < ps.length := by omega
    have hgd : ps.getD i ((0 : Int), ((0 : Int), (0 : Int))) = ps[i] := by simp [hlt]
    obtain ⟨p1, p2, p3, p4, p5, p6⟩ := hps ps[i] (List.getElem_mem hlt)
    have hwm : w.length * (M + 1) ≤ 854 := Nat.le_trans (Nat.mul_le_mul hl (show M + 1 ≤ 61 by omega)) (by decide)
    rw [week_TimesOf_l0_eq, List.drop_eq_getElem_cons hlt]
    simp only [week_TimesOf_l0_step]
    rw [dec_true (show (i : Int) < (ps.length : Int) by omega), inR_t (by omega) (by omega)]
    simp only [cond_true, Int.toNat_natCast, hgd]
    rw [w64_in (x := ps[i].1 + ps[i].2.2) (by omega) (by omega), w64_in (x := ps[i].1 + ps[i].2.2 - -259200) (by omega) (by omega), tmod_nn (by omega)]
    rw [w64_in (x := ps[i].1 + ps[i].2.2 - -259200 - (ps[i].1 + ps[i].2.2 - -259200) % 604800) (by omega) (by omega)]
    rw [w64_in (x := ps[i].1 + ps[i].2.2 - -259200 - (ps[i].1 + ps[i].2.2 - -259200) % 604800 + -259200) (by omega) (by omega)]
    rw [w64_in (x := ps[i].1 + ps[i].2.2 - -259200 - (ps[i].1 + ps[i].2.2 - -259200) % 604800 + -259200 - ps[i].2.2) (by omega) (by omega)]
    generalize hst : ps[i].1 + ps[i].2.2 - -259200 - (ps[i].1 + ps[i].2.2 - -259200) % 604800 + -259200 - ps[i].2.2 = st
    obtain ⟨E1, e1, l1, b1, m1⟩ := T2_lp hw hl (f := ps[i].1) (t := ps[i].2.1) (q := ps[i].2.2) (by omega) (by omega) p2 (ps.length : Int) (i : Int) ps (M + 1) st acc (by omega) (by omega) (by omega)
    rw [e1]
    simp only [Option.bind_some]
    rw [w64_in (x := (i : Int) + 1) (by omega) (by omega), lpK_inl]
    obtain ⟨E2, e2, l2, b2, m2⟩ := T0_lp hw hl hM hpl hlo hhi hps n (i + 1) (acc ++ E1) (by omega) (by simp; omega)
    refine ⟨E1 ++ E2, ?_, ?_, ?_, fun x => ?_⟩
    · rw [List.append_assoc] at e2; exact e2
    · rw [List.length_append, Nat.mul_succ]; omega
    · intro s hs
      rcases List.mem_append.1 hs with hs | hs
      · have := b1 s hs; omega
      · exact b2 s hs
    · rw [inS_app, m1 x, m2 x]
      have key : ∀ x, ps[i].1 ≤ x → (x - st) % 604800 = (x + ps[i].2.2 + 259200) % 604800 ∧ st ≤ x := by intro x hx; omega
      constructor
      · rintro (⟨c1, c2, c3, c4⟩ | ⟨p, hp, h⟩)
        · exact ⟨ps[i], List.mem_cons_self .., c1, c2, by rw [← (key x c1).1]; exact c4⟩
        · exact ⟨p, List.mem_cons_of_mem _ hp, h⟩
      · rintro ⟨p, hp, c1, c2, c3⟩
        rcases List.mem_cons.1 hp with rfl | hp
        · exact Or.inl ⟨c1, c2, (key x c1).2, by rw [(key x c1).1]; exact c3⟩
        · exact Or.inr ⟨p, hp, c1, c2, c3⟩

theorem TimesOf_ok {o : Int} {l : TrL} (h : TOk o l) (hll : l.length ≤ 20) {w : WL} (hw : WOk 0 w) (hl : w.length ≤ 14) {M : Nat} (hM : M ≤ 60) {a b : Int} (ha : 0 ≤ a) (hab : a ≤ b) (hb : b ≤ 8589934592) (hlen : b - a ≤ 604800 * M) :
    ∃ out, week_TimesOf (o, l) w a b = some out ∧ StS (a - 1) out ∧ (∀ u ∈ out, a ≤ u.1 ∧ u.2 ≤ b) ∧ out.length ≤ w.length * (M + 1) * (l.length + 1) ∧
      ∀ k, k ≤ l.length → ∀ x, a ≤ x → x < b → frm l k ≤ x → x < frm l (k + 1) → (inS x out ↔ hasB ((x + tof o l k + 259200) % 604800) w = true) := by
  obtain ⟨ps, e, pl, pm, pc⟩ := PcR_ok h ha hab hb
  obtain ⟨E, e1, l1, b1, m1⟩ := T0_lp hw hl hM (ps := ps) (by omega) (lo := a) (hi := b) ha hb (fun p hp => by
    obtain ⟨h1, h2, h3, i, i1, i2, _⟩ := pm p hp
    have := h.of0 i i1; have := h.of1 i i1
    exact ⟨h1, h2, h3, by omega, by omega, by omega⟩) ps.length 0 [] (by omega) (by simp)
  rw [show ((0 : Nat) : Int) = 0 from rfl, List.nil_append] at e1
  have hwm : w.length * (M + 1) ≤ 854 := Nat.le_trans (Nat.mul_le_mul hl (show M + 1 ≤ 61 by omega)) (by decide)
  have hEl : E.length ≤ w.length * (M + 1) * (l.length + 1) := Nat.le_trans l1 (Nat.mul_le_mul_left _ pl)
  have hEl2 : E.length ≤ 854 * 21 := Nat.le_trans hEl (Nat.mul_le_mul hwm (by omega))
  obtain ⟨out, e2, s1, s2, s3, s4⟩ := Merge_ok (l := E) (by omega) (fun s hs => by have := b1 s hs; omega) (lo := a) (hi := b) (fun s hs _ => ⟨(b1 s hs).1, (b1 s hs).2.1⟩)
  refine ⟨out, ?_, s1, s4, by omega, fun k hk x hx1 hx2 hk1 hk2 => ?_⟩
  · simp only [week_TimesOf, e, Option.bind_some, show Int.ofNat (List.length ps) = (ps.length : Int) from rfl, e1, e2]
  · rw [s2 x, m1 x, List.drop_zero]
    constructor
    · rintro ⟨p, hp, c1, c2, c3⟩
      obtain ⟨h1, h2, h3, i, i1, i2, i3, i4⟩ := pm p hp
      have : i = k := piece_uniq h i1 hk (t := x) (by omega) (by omega) hk1 hk2
      subst this
      rw [← i2]; exact c3
    · intro hx
      obtain ⟨p, hp, c1, c2⟩ := pc x hx1 hx2
      obtain ⟨h1, h2, h3, i, i1, i2, i3, i4⟩ := pm p hp
      have : i = k := piece_uniq h i1 hk (t := x) (by omega) (by omega) hk1 hk2
      subst this
      exact ⟨p, hp, c1, c2, by rw [i2]; exact hx⟩

theorem Times_ok {z : ByteArray × (Int × List Rule)} {l : TrL} (h : ZTab z l) {w : WL} (hw : WOk 0 w) (hl : w.length ≤ 14) {a b : Int} (ha : 0 ≤ a) (hab : a ≤ b) (hb : b ≤ 8589934592) (hlen : b - a ≤ 34560000) {out : SL}
    (ho : week_TimesOf (z.2.1, l) w a b = some out) (hol : out.length ≤ 4096) : week_Times z w a b = some (out, 0) := by
  simp only [week_Times, show zone_Of (z.1, (z.2.1, z.2.2)) = _ from Of_ok h, Option.bind_some, bne_self_eq_false, cond_false, Check_ok hw hl]
  rw [dec_false (show ¬ a < 0 by omega), dec_false (show ¬ a > 8589934592 by omega), dec_false (show ¬ b < a by omega), dec_false (show ¬ b > 8589934592 by omega), w64_in (x := b - a) (by omega) (by omega), dec_false (show ¬ b - a > 34560000 by omega)]
  simp only [cond_false, ho, Option.bind_some, show Int.ofNat (List.length out) = (out.length : Int) from rfl]
  rw [dec_false (by omega), cond_false]

/-- The second of the week of an instant of a piece. -/
theorem Second_val {z : ByteArray × (Int × List Rule)} {l : TrL} (h : ZTab z l) {t : Int} (h0 : 0 ≤ t) (h1 : t ≤ 8589934592) {k : Nat} (hk : k ≤ l.length) (hk1 : frm l k ≤ t) (hk2 : t < frm l (k + 1)) :
    week_Second z t = some ((t + tof z.2.1 l k + 259200) % 604800, 0) := by
  have o0 := h.2.of0 k hk; have o1 := h.2.of1 k hk
  simp only [week_Second, show zone_ToLocal (z.1, (z.2.1, z.2.2)) t = _ from ToLocal_ok h h0 h1 hk hk1 hk2, Option.bind_some, bne_self_eq_false, cond_false, week_SecondOf]
  rw [Weekday_nn _ (by omega)]
  simp only [Option.bind_some]
  rw [w64_in (x := ((t + tof z.2.1 l k) / 86400 + 3) % 7 * 86400) (by omega) (by omega), w64_in (by omega) (by omega)]
  congr 2
  omega

theorem occ_len {o : Int} {rs : List Rule} (hm : MZ o rs) : (outT o (isort (occs rs))).length ≤ 20 := by
  have h1 := out_len (isort (occs rs)) o
  have h2 : (isort (occs rs)).length = (occs rs).length := by
    unfold isort
    rw [List.length_reverse, isortRev_len]; simp
  have := hm.few
  omega
end Go.Proofs.Pw

/- Chapter 3's reference: Valid, Has and Length of spans in order, apart. -/
set_option linter.unusedSectionVars false
open Go Go.Lft
namespace Go.Proofs.Pw

theorem sts_get : ∀ {l : SL} {p : Int}, StS p l → ∀ i, i < l.length → p < (l.getD i (0, 0)).1 ∧ (l.getD i (0, 0)).1 < (l.getD i (0, 0)).2
  | [], _, _, i, hi => by simp at hi
  | x :: r, p, h, 0, _ => ⟨h.1, h.2.1⟩
  | x :: r, p, h, i + 1, hi => by
    have := sts_get h.2.2 i (by simpa using hi)
    have h1 := h.1; have h2 := h.2.1
    refine ⟨?_, this.2⟩
    have e : ((x :: r).getD (i + 1) (0, 0)).1 = (r.getD i (0, 0)).1 := rfl
    rw [e]; omega
theorem sts_gap : ∀ {l : SL} {p : Int}, StS p l → ∀ i j, i < j → j < l.length → (l.getD i (0, 0)).2 < (l.getD j (0, 0)).1
  | [], _, _, i, j, _, hj => by simp at hj
  | x :: r, p, h, 0, j + 1, _, hj => (sts_get h.2.2 j (by simpa using hj)).1
  | x :: r, p, h, i + 1, j + 1, hij, hj => sts_gap h.2.2 i j (by omega) (by simpa using hj)
  | x :: r, p, h, _, 0, hij, _ => by omega

section
variable {l : SL} {p : Int} (h : StS p l) (hp : -1 ≤ p) (hl : l.length ≤ 4096) (hb : ∀ u ∈ l, u.2 ≤ 8589934592)
include h hp hl hb

theorem get_bd (i : Nat) (hi : i < l.length) : (l.getD i (0, 0)).2 ≤ 8589934592 := by
  rw [show l.getD i (0, 0) = l[i] by simp [hi]]
  exact hb _ (List.getElem_mem hi)

theorem V3_lp : ∀ (n i : Nat), i + n = l.length → r03_Valid_l0 l (i : Int) = some (.inr ())
  | 0, i, hi => by
    rw [r03_Valid_l0_eq]
    simp only [r03_Valid_l0_step, show Int.ofNat (List.length l) = (l.length : Int) from rfl]
    rw [dec_false (by omega), cond_false, lpK_inr]
  | n + 1, i, hi => by
    have ih := V3_lp n (i + 1) (by omega)
    have hg := sts_get h i (by omega)
    have hu := get_bd h hp hl hb i (by omega)
    rw [r03_Valid_l0_eq]
    simp only [r03_Valid_l0_step, show Int.ofNat (List.length l) = (l.length : Int) from rfl]
    rw [dec_true (show (i : Int) < (l.length : Int) by omega), inR_t (by omega) (by omega)]
    simp only [cond_true, Int.toNat_natCast]
    rw [dec_false (show ¬ (l.getD i ((0 : Int), (0 : Int))).1 < 0 by omega), dec_false (show ¬ (l.getD i ((0 : Int), (0 : Int))).1 ≥ (l.getD i ((0 : Int), (0 : Int))).2 by omega), dec_false (show ¬ (l.getD i ((0 : Int), (0 : Int))).2 > 8589934592 by omega)]
    rw [w64_in (x := (i : Int) + 1) (by omega) (by omega)]
    simp only [cond_false]
    by_cases h0 : i = 0
    · rw [dec_false (by omega)]
      simp only [cond_false, lpK_inl]
      exact ih
    · obtain ⟨j, rfl⟩ : ∃ j, i = j + 1 := ⟨i - 1, by omega⟩
      have hgap := sts_gap h j (j + 1) (by omega) (by omega)
      rw [dec_true (by omega), w64_in (x := ((j + 1 : Nat) : Int) - 1) (by omega) (by omega), inR_t (by omega) (by omega), show (((j + 1 : Nat) : Int) - 1).toNat = j by omega, dec_false (by omega)]
      simp only [cond_true, cond_false, lpK_inl]
      exact ih

theorem Valid3_ok : r03_Valid l = some true := by
  have := V3_lp h hp hl hb l.length 0 (by omega)
  rw [show ((0 : Nat) : Int) = 0 from rfl] at this
  simp only [r03_Valid, show Int.ofNat (List.length l) = (l.length : Int) from rfl]
  rw [dec_false (by omega), cond_false, this]
  rfl

theorem has_lp (x : Int) : ∀ (n a b : Nat), b - a ≤ n → a ≤ b → b ≤ l.length → (∀ i, i < a → (l.getD i (0, 0)).2 ≤ x) → (∀ i, b ≤ i → i < l.length → x < (l.getD i (0, 0)).2) →
    ∃ k : Nat, r03_has_l0 l x (a : Int) (b : Int) = some (l, x, (k : Int)) ∧ k ≤ l.length ∧ (∀ i, i < k → (l.getD i (0, 0)).2 ≤ x) ∧ (∀ i, k ≤ i → i < l.length → x < (l.getD i (0, 0)).2)
  | 0, a, b, hn, hab, hbl, h1, h2 => by
    rw [r03_has_l0_eq]
    simp only [r03_has_l0_step]
    rw [dec_false (by omega), cond_false, lpK_inr]
    exact ⟨a, rfl, by omega, h1, fun i hi => h2 i (by omega)⟩
  | n + 1, a, b, hn, hab, hbl, h1, h2 => by
    rw [r03_has_l0_eq]
    simp only [r03_has_l0_step]
    by_cases hlt : a < b
    · rw [dec_true (show (a : Int) < (b : Int) by omega), w64_in (x := (a : Int) + (b : Int)) (by omega) (by omega), tdiv_nn (by omega), w64_in (x := ((a : Int) + (b : Int)) / 2) (by omega) (by omega),
        show ((a : Int) + (b : Int)) / 2 = (((a + b) / 2 : Nat) : Int) by omega, inR_t (by omega) (by omega), w64_in (x := (((a + b) / 2 : Nat) : Int) + 1) (by omega) (by omega)]
      simp only [cond_true, Int.toNat_natCast]
      by_cases hc : (l.getD ((a + b) / 2) (0, 0)).2 ≤ x
      · rw [dec_true hc, cond_true, lpK_inl]
        refine has_lp x n ((a + b) / 2 + 1) b (by omega) (by omega) hbl (fun i hi => ?_) h2
        rcases Nat.lt_or_ge i ((a + b) / 2) with h' | h'
        · have g1 := sts_gap h i ((a + b) / 2) h' (by omega)
          have g2 := sts_get h ((a + b) / 2) (by omega)
          omega
        · have : i = (a + b) / 2 := by omega
          rw [this]; exact hc
      · rw [dec_false hc, cond_false, lpK_inl]
        refine has_lp x n a ((a + b) / 2) (by omega) (by omega) (by omega) h1 (fun i hi hi2 => ?_)
        rcases Nat.lt_or_ge ((a + b) / 2) i with h' | h'
        · have g1 := sts_gap h ((a + b) / 2) i h' (by omega)
          have g2 := sts_get h i (by omega)
          omega
        · have : i = (a + b) / 2 := by omega
          rw [this]; omega
    · rw [dec_false (by omega), cond_false, lpK_inr]
      exact ⟨a, rfl, by omega, h1, fun i hi => h2 i (by omega)⟩

theorem Has3_ok (x : Int) : ∃ b, r03_Has l x = some b ∧ (b = true ↔ inS x l) := by
  obtain ⟨k, e, hk, h1, h2⟩ := has_lp h hp hl hb x l.length 0 l.length (by omega) (by omega) (by omega) (fun i hi => by omega) (fun i hi hi2 => by omega)
  rw [show ((0 : Nat) : Int) = 0 from rfl] at e
  simp only [r03_Has, Valid3_ok h hp hl hb, Option.bind_some, cond_true, r03_has, show Int.ofNat (List.length l) = (l.length : Int) from rfl, e]
  by_cases hkl : k < l.length
  · rw [dec_true (show (k : Int) < (l.length : Int) by omega), inR_t (by omega) (by omega)]
    simp only [Bool.true_or, cond_true, Int.toNat_natCast, Option.bind_some]
    refine ⟨_, rfl, ?_⟩
    rw [decide_eq_true_iff]
    have hgd : l.getD k ((0 : Int), (0 : Int)) = l[k] := by simp [hkl]
    constructor
    · intro hx
      exact ⟨l[k], List.getElem_mem hkl, by rw [← hgd]; exact hx, by rw [← hgd]; exact h2 k (Nat.le_refl _) hkl⟩
    · rintro ⟨s, hs, c1, c2⟩
      obtain ⟨i, hi, rfl⟩ := List.getElem_of_mem hs
      have hgi : l.getD i ((0 : Int), (0 : Int)) = l[i] := by simp [hi]
      rw [← hgi] at c1 c2
      rcases Nat.lt_trichotomy i k with h' | h' | h'
      · have := h1 i h'; omega
      · subst h'; exact c1
      · have g1 := sts_gap h k i h' hi
        have g2 := sts_get h k hkl
        omega
  · rw [dec_false (show ¬ (k : Int) < (l.length : Int) by omega)]
    simp only [Bool.not_false, Bool.or_true, cond_true, cond_false, Option.bind_some]
    refine ⟨false, rfl, ?_⟩
    simp only [Bool.false_eq_true, false_iff]
    rintro ⟨s, hs, c1, c2⟩
    obtain ⟨i, hi, rfl⟩ := List.getElem_of_mem hs
    have hgi : l.getD i ((0 : Int), (0 : Int)) = l[i] := by simp [hi]
    have := h1 i (by omega)
    rw [hgi] at this
    omega

end

theorem inS_bd {x a b : Int} {l : SL} (h : ∀ u ∈ l, a ≤ u.1 ∧ u.2 ≤ b) (hx : inS x l) : a ≤ x ∧ x < b := by
  obtain ⟨s, hs, h1, h2⟩ := hx
  have := h s hs
  omega
end Go.Proofs.Pw
